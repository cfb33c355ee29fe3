-- Written by a program of this session (wip/tools/mkprint.py over the kit's print); Lean checks it.
import Derived.Test.YtoonddgldmfleaaQSchedStepsx0
import Derived.Test.YtoonddgldmfleaaQSchedStepsx1
import Derived.Test.YtoonddgldmfleaaQSchedStepsx4
import Derived.Test.YtoonddgldmfleaaQSchedStepsx5
import Derived.Test.YtoonddgldmfleaaQSchedStepsx6
import Derived.Test.YtoonddgldmfleaaQSchedStepsx7
import Derived.Test.YtoonddgldmfleaaQSchedStepsx8
import Derived.Test.YtoonddgldmfleaaQSchedStepsx9
import Derived.Test.YtoonddgldmfleaaQSchedStepsx10
namespace Go.Proofs.Ytoonddgldmfleaa.QSchedSteps
open Go.RowKit Go.Proofs.YtoonddgldmfleaaW.PrintWords Go.Proofs.YtoonddgldmfleaaW.PrintLast Go.Proofs.YtoonddgldmfleaaW.PrintMore
attribute [local go_sem] max2_int min2_int max_two min_two max_three min_three max_four min_four   -- for this text's walks alone
set_option linter.unusedVariables false
set_option linter.unusedSimpArgs false

attribute [local go_sem high] eqA52
/-! ### hornbeamlaw21_SchedSteps: function 11 -/
def hornbeamlaw21_SchedSteps.j0 : Nat → Int → Bool → Int → Int → Int → List Int → List Bool → Bool → Option (Bool)
 | 0, _, _, _, _, _, _, _, _ => none
 | k + 1, x1, x21, x252000, x252001, x252002, x252003, x252004, x252005 => if x21 = true then ((hornbeamlaw21_fixed.f k).bind fun t252 => (some t252)) else ((some (([] : List Int) : List Int)).bind fun y254 => (if y254.length + x252003.length < 17592186044416 then ((some (y254 ++ x252003 : List Int)).bind fun y257 => ((some (([] : List Bool) : List Bool)).bind fun y260 => (if y260.length + x252004.length < 140737488355328 then ((some (y260 ++ x252004 : List Bool)).bind fun y263 => ((sched_Step.f k x252000 x252001 x252002 x252003 x252004 x252005 x1).bind fun bt266 => ((hornbeamref21_Step.f k x252000 x252001 x252002 y257 y263 x252005 x1).bind fun bt282 => ((hornbeamlaw21_fixed.f k).bind fun t298 => (if t298 = true then ((sched_May.f k x252000 x252001 x252002 x252003 x252004 x252005).bind fun t299 => ((hornbeamref21_May.f k x252000 x252001 x252002 y257 y263 x252005).bind fun t300 => (if (t299 == t300) = true then ((sched_Ready.f k x252000 x252001 x252002 x252003 x252004 x252005).bind fun t301 => ((hornbeamref21_Ready.f k x252000 x252001 x252002 y257 y263 x252005).bind fun t304 => ((hornbeamref03_Same.f k t301 t304).bind fun t307 => (if t307 = true then ((hornbeamref21_Same.f k bt266.1 bt266.2.1 bt266.2.2.1 bt266.2.2.2.1 bt266.2.2.2.2.1 bt266.2.2.2.2.2.1 bt282.1 bt282.2.1 bt282.2.2.1 bt282.2.2.2.1 bt282.2.2.2.2.1 bt282.2.2.2.2.2.1).bind fun t308 => (if t308 = true then (if (bt266.2.2.2.2.2.2.1 == bt282.2.2.2.2.2.2.1 && (bt266.2.2.2.2.2.2.2.1 == bt282.2.2.2.2.2.2.2.1 && (bt266.2.2.2.2.2.2.2.2.1 == bt282.2.2.2.2.2.2.2.2.1))) = true then (if bt266.2.2.2.2.2.2.2.2.2 = bt282.2.2.2.2.2.2.2.2.2 then ((hornbeamref21_Same.f k x252000 x252001 x252002 x252003 x252004 x252005 x252000 x252001 x252002 y257 y263 x252005).bind fun t309 => (some t309)) else (some false)) else (some false)) else (some false))) else (some false))))) else (some false)))) else (some false)))))) else (none)))) else (none)))
def hornbeamlaw21_SchedSteps.f (k : Nat) (a0_0 : Int) (a0_1 : Int) (a0_2 : Int) (l0_3 : List Int) (l0_4 : List Bool) (a0_5 : Bool) (a1 : Int) : Option (Bool) := if (l0_4.length : Int) > 200 then (hornbeamlaw21_SchedSteps.j0 k a1 true a0_0 a0_1 a0_2 l0_3 l0_4 a0_5) else (hornbeamlaw21_SchedSteps.j0 k a1 (decide ((l0_3.length : Int) > 200)) a0_0 a0_1 a0_2 l0_3 l0_4 a0_5)
theorem hornbeamlaw21_SchedSteps.mono_l : ∀ k, (∀ y0 y1 y2 y3 y4 y5 y6 y7, LeO (hornbeamlaw21_SchedSteps.j0 k y0 y1 y2 y3 y4 y5 y6 y7) (hornbeamlaw21_SchedSteps.j0 (k + 1) y0 y1 y2 y3 y4 y5 y6 y7))
 | 0 => fun _ _ _ _ _ _ _ _ r h => by simp [hornbeamlaw21_SchedSteps.j0] at h
 | k + 1 => by
  have ih0 := hornbeamlaw21_SchedSteps.mono_l k
  ·intro y0 y1 y2 y3 y4 y5 y6 y7
   unfold hornbeamlaw21_SchedSteps.j0
   repeat' first
   | (with_reducible exact ih0 _ _ _ _ _ _ _ _)
   | (with_reducible exact hornbeamlaw21_fixed.mono _)
   | (with_reducible exact hornbeamref03_Same.mono _ _ _)
   | (with_reducible exact hornbeamref21_May.mono _ _ _ _ _ _ _)
   | (with_reducible exact hornbeamref21_Ready.mono _ _ _ _ _ _ _)
   | (with_reducible exact hornbeamref21_Same.mono _ _ _ _ _ _ _ _ _ _ _ _ _)
   | (with_reducible exact hornbeamref21_Step.mono _ _ _ _ _ _ _ _)
   | (with_reducible exact sched_May.mono _ _ _ _ _ _ _)
   | (with_reducible exact sched_Ready.mono _ _ _ _ _ _ _)
   | (with_reducible exact sched_Step.mono _ _ _ _ _ _ _ _)
   | (with_reducible exact LeO.refl _)
   | (with_reducible exact LeO.none _)
   | (with_reducible refine LeO.ite ?_ ?_)
   | (with_reducible refine LeO.bind ?_ (fun _ => ?_))
   | exact ih0 _ _ _ _ _ _ _ _
   | exact hornbeamlaw21_fixed.mono _
   | exact hornbeamref03_Same.mono _ _ _
   | exact hornbeamref21_May.mono _ _ _ _ _ _ _
   | exact hornbeamref21_Ready.mono _ _ _ _ _ _ _
   | exact hornbeamref21_Same.mono _ _ _ _ _ _ _ _ _ _ _ _ _
   | exact hornbeamref21_Step.mono _ _ _ _ _ _ _ _
   | exact sched_May.mono _ _ _ _ _ _ _
   | exact sched_Ready.mono _ _ _ _ _ _ _
   | exact sched_Step.mono _ _ _ _ _ _ _ _
   | exact LeO.none _
   | refine LeO.ite ?_ ?_
   | refine LeO.bind ?_ (fun _ => ?_)
theorem hornbeamlaw21_SchedSteps.mono : ∀ a0 a1 a2 a3 a4 a5 a6 k, LeO (hornbeamlaw21_SchedSteps.f k a0 a1 a2 a3 a4 a5 a6) (hornbeamlaw21_SchedSteps.f (k + 1) a0 a1 a2 a3 a4 a5 a6) := by
 intro a0 a1 a2 a3 a4 a5 a6 k
 have ih0 := hornbeamlaw21_SchedSteps.mono_l k
 unfold hornbeamlaw21_SchedSteps.f
 repeat' first
   | (with_reducible exact ih0 _ _ _ _ _ _ _ _)
   | (with_reducible exact hornbeamlaw21_fixed.mono _)
   | (with_reducible exact hornbeamref03_Same.mono _ _ _)
   | (with_reducible exact hornbeamref21_May.mono _ _ _ _ _ _ _)
   | (with_reducible exact hornbeamref21_Ready.mono _ _ _ _ _ _ _)
   | (with_reducible exact hornbeamref21_Same.mono _ _ _ _ _ _ _ _ _ _ _ _ _)
   | (with_reducible exact hornbeamref21_Step.mono _ _ _ _ _ _ _ _)
   | (with_reducible exact sched_May.mono _ _ _ _ _ _ _)
   | (with_reducible exact sched_Ready.mono _ _ _ _ _ _ _)
   | (with_reducible exact sched_Step.mono _ _ _ _ _ _ _ _)
   | (with_reducible exact LeO.refl _)
   | (with_reducible exact LeO.none _)
   | (with_reducible refine LeO.ite ?_ ?_)
   | (with_reducible refine LeO.bind ?_ (fun _ => ?_))
   | exact ih0 _ _ _ _ _ _ _ _
   | exact hornbeamlaw21_fixed.mono _
   | exact hornbeamref03_Same.mono _ _ _
   | exact hornbeamref21_May.mono _ _ _ _ _ _ _
   | exact hornbeamref21_Ready.mono _ _ _ _ _ _ _
   | exact hornbeamref21_Same.mono _ _ _ _ _ _ _ _ _ _ _ _ _
   | exact hornbeamref21_Step.mono _ _ _ _ _ _ _ _
   | exact sched_May.mono _ _ _ _ _ _ _
   | exact sched_Ready.mono _ _ _ _ _ _ _
   | exact sched_Step.mono _ _ _ _ _ _ _ _
   | exact LeO.none _
   | refine LeO.ite ?_ ?_
   | refine LeO.bind ?_ (fun _ => ?_)
def hornbeamlaw21_SchedSteps.T4 : Bool × List (List Nat × List Nat) := (true, [([], []), ([], []), ([1], [1]), ([0, 2], [0, 2]), ([], []), ([], []), ([5], [5]), ([4, 6, 3], [4, 6]), ([0, 1, 2, 3], []), ([8, 3, 7, 0, 1, 2, 3], [3, 8]), ([0, 1, 2, 3, 4, 5, 6, 7, 8, 9], []), ([10, 7, 9, 0, 1, 2, 3, 4, 5, 6, 7, 8, 9], [7, 10])])
def hornbeamlaw21_SchedSteps.B4 : List Nat := [0, 0, 2, 7, 0, 0, 32, 127, 15, 511, 1023, 2047]
theorem hornbeamlaw21_SchedSteps.tab4 : rtab .any (opsOf Try.f11 4) = hornbeamlaw21_SchedSteps.T4 := by kernel_rfl
theorem hornbeamlaw21_SchedSteps.bits4 : waitsOk hornbeamlaw21_SchedSteps.T4.2 hornbeamlaw21_SchedSteps.B4 = true := by kernel_rfl
def hornbeamlaw21_SchedSteps.T7 : Bool × List (List Nat × List Nat) := (true, [([], []), ([0, 0], [0]), ([1], [1]), ([2, 1, 1], [1, 2]), ([1], [1]), ([4, 3, 1], [1, 4]), ([3, 5, 1], [1, 3, 5]), ([1, 6], [1, 6]), ([7, 5], [7]), ([8], [8]), ([9, 8, 8], [8, 9]), ([8], [8]), ([11, 10, 8], [8, 11]), ([10, 12, 12, 8], [8, 10, 12]), ([8, 13], [8, 13]), ([14, 13], [14]), ([15], [15]), ([15], [15]), ([16, 17, 15, 15], [15, 16, 17]), ([15, 18], [15, 18]), ([19, 18], [19]), ([20], [20]), ([20], [20]), ([21, 22, 20], [20, 21, 22]), ([20, 23], [20, 23]), ([24, 20], [24]), ([25], [25]), ([25], [25]), ([26, 27, 25], [25, 26, 27]), ([25, 28], [25, 28]), ([29, 25], [29]), ([30], [30]), ([30], [30]), ([31, 32, 30, 30], [30, 31, 32]), ([30, 33], [30, 33]), ([34, 33, 0, 1, 2, 3, 4, 5, 6, 7, 8, 9, 10, 11, 12, 13, 14, 15, 16, 17, 18, 19, 20, 21, 22, 23, 24, 25, 26, 27, 28, 29, 30, 31, 32, 33, 34], [34])])
def hornbeamlaw21_SchedSteps.B7 : List Nat := [0, 1, 3, 7, 3, 31, 63, 127, 255, 511, 1023, 511, 4095, 8191, 16383, 32767, 65535, 65535, 262143, 524287, 1048575, 2097151, 2097151, 8388607, 16777215, 33554431, 67108863, 67108863, 268435455, 536870911, 1073741823, 2147483647, 2147483647, 8589934591, 17179869183, 34359738367]
theorem hornbeamlaw21_SchedSteps.tab7 : rtab .any (opsOf Try.f11 7) = hornbeamlaw21_SchedSteps.T7 := by kernel_rfl
theorem hornbeamlaw21_SchedSteps.bits7 : waitsOk hornbeamlaw21_SchedSteps.T7.2 hornbeamlaw21_SchedSteps.B7 = true := by kernel_rfl
set_option maxHeartbeats 8000000 in
set_option maxRecDepth 100000 in
theorem hornbeamlaw21_SchedSteps.calls (k : Nat) (a0_0 : Int) (a0_1 : Int) (a0_2 : Int) (A0_3 : Option Addr) (c0_3 : Nat) (l0_3 : List Int) (A0_4 : Option Addr) (c0_4 : Nat) (l0_4 : List Bool) (a0_5 : Bool) (a1 : Int) (r : Bool) (w : World) (hr0_3 : Kd.C (Kd.int .i64) w A0_3 l0_3.length l0_3) (hc0_3 : l0_3.length ≤ c0_3) (hr0_4 : Kd.C Kd.bool w A0_4 l0_4.length l0_4) (hc0_4 : l0_4.length ≤ c0_4) (h : hornbeamlaw21_SchedSteps.f k a0_0 a0_1 a0_2 l0_3 l0_4 a0_5 a1 = some r) (hr_ : r = true) :
  Calls Try.prog 11 #[.agg #[.int .i64 a0_0, .int .i64 a0_1, .int .i64 a0_2, .slice A0_3 l0_3.length c0_3, .slice A0_4 l0_4.length c0_4, .bool a0_5], .int .i64 a1] w fun e w' => e = .returned (.bool r) ∧ Below w.heap.size w w' := by
 have hu42 := Try.underlying42
 have hu52 := Try.underlying52
 have HR_ := aaM hr_
 clear hr_
 have HR0_3 := aaM hr0_3
 have HC0_3 := aaM hc0_3
 clear hr0_3 hc0_3
 have HR0_4 := aaM hr0_4
 have HC0_4 := aaM hc0_4
 clear hr0_4 hc0_4
 have HB := aaM (Below.refl w.heap.size w)
 have H : (if (l0_4.length : Int) > 200 then (hornbeamlaw21_SchedSteps.j0 k a1 true a0_0 a0_1 a0_2 l0_3 l0_4 a0_5) else (hornbeamlaw21_SchedSteps.j0 k a1 (decide ((l0_3.length : Int) > 200)) a0_0 a0_1 a0_2 l0_3 l0_4 a0_5)) = some r := h
 clear h
 have HC3 := aaM H
 clear H
 go_enter Try.func11, Try.ntmps11
 go_upto_region 1 with (first | ((with_reducible refine gate_dst (N := 2) rfl ?_); (try (refine gate_guard (by rfl) ?_; dsimp only)); refine box_event ?hg (N := 2) ?hd (cs := #[.int .i64 a0_0, .int .i64 a0_1, .int .i64 a0_2, .slice A0_3 l0_3.length c0_3, .slice A0_4 l0_4.length c0_4, .bool a0_5]) (t := 42) ?hr ?_; (case hd => rfl); (case hg => rfl); (case hr => first | (go_simp; done) | (go_simp; rfl)); intro gb251 hg w4 hbox hb; have n0_ := aaM (lP (by repeat (first | (with_reducible first | exact HB.out | apply lA | apply lN | apply lD) | exact HB.out)) hb); have n1_ := aaM (hbox); have n2_ := aaM ((by rw [hg]; exact (lZ (by repeat (first | (with_reducible first | exact HB.out | apply lA | apply lN | apply lD) | exact HB.out))) : w.heap.size ≤ gb251)); have n3_ := aaM ((by rw [hg]; exact (lZ (by repeat (first | (with_reducible first | exact HB.out | apply lA | apply lN | apply lD) | exact HB.out))) : w.heap.size ≤ gb251)); clear HB; have HB := n0_; have BK251 := n1_; have GW251 := n2_; have GE251 := n3_; clear n0_ n1_ n2_ n3_; clear hb hbox hg))
 (try simp only [Act.put, ssB, ssZ, ssS])
 go_cut [21] (fun v21 wc => ∃ (kq : Nat) (x21_2 : Bool), v21 = .bool x21_2 ∧ Aside0 (hornbeamlaw21_SchedSteps.j0 kq a1 x21_2 a0_0 a0_1 a0_2 l0_3 l0_4 a0_5 = some r) ∧ Aside0 (kq ≤ k) ∧ Aside0 (wc.heap[gb251]? = some (.cells #[.int .i64 a0_0, .int .i64 a0_1, .int .i64 a0_2, (.slice A0_3 l0_3.length c0_3), (.slice A0_4 l0_4.length c0_4), .bool a0_5] 42 (0, 0))) ∧ Aside0 (Below w.heap.size w wc))
 case first =>
  have H := HC3.out
  clear HC3
  by_cases c5 : (l0_4.length : Int) > 200
  ·rw [if_pos c5] at H
   have c5b0 : decide (200 < (l0_4.length : Int)) = true := decide_eq_true c5
   have c5b1 : decide (200 < l0_4.length) = true := decide_eq_true (by omega)
   clear c5
   (first | rw [c5b0] | (simp only [i64_w, i32_w]; rw [c5b0]) | skip)
   have H' := aaM H
   clear H
   have hcz6_0 : w4.cell? ⟨gb251, 0, none⟩ = some (.int .i64 a0_0) := (bC BK251.out 0).trans rfl
   have hcz6_1 : w4.cell? ⟨gb251, 1, none⟩ = some (.int .i64 a0_1) := (bC BK251.out 1).trans rfl
   have hcz6_2 : w4.cell? ⟨gb251, 2, none⟩ = some (.int .i64 a0_2) := (bC BK251.out 2).trans rfl
   have hcz6_3 : w4.cell? ⟨gb251, 3, none⟩ = some (.slice A0_3 l0_3.length c0_3) := (bC BK251.out 3).trans rfl
   have hcz6_4 : w4.cell? ⟨gb251, 4, none⟩ = some (.slice A0_4 l0_4.length c0_4) := (bC BK251.out 4).trans rfl
   have hcz6_5 : w4.cell? ⟨gb251, 5, none⟩ = some (.bool a0_5) := (bC BK251.out 5).trans rfl
   have hfz6_0 := bF BK251.out 0
   have hfz6_1 := bF BK251.out 1
   have hfz6_2 := bF BK251.out 2
   have hfz6_3 := bF BK251.out 3
   have hfz6_4 := bF BK251.out 4
   have hfz6_5 := bF BK251.out 5
   go_wp2
   go_meet
   case rel => exact ⟨_, (true), (by first | rfl | (simp; done) | (simp [*]; done)), H', ⟨by first | omega | exact Nat.le_refl _⟩, ⟨by (with_reducible repeat (first | refine bN ?_ _ | refine bD ?_ | refine bA ?_ _)); exact BK251.out⟩, ⟨by repeat (first | (with_reducible first | exact HB.out | apply lA | apply lN | apply lD | refine lS ?_ GE251.out) | exact HB.out)⟩⟩
  ·rw [if_neg c5] at H
   have c5b0 : decide (200 < (l0_4.length : Int)) = false := decide_eq_false c5
   have c5b1 : decide (200 < l0_4.length) = false := decide_eq_false (by omega)
   clear c5
   (first | rw [c5b0] | (simp only [i64_w, i32_w]; rw [c5b0]) | skip)
   have H' := aaM H
   clear H
   have hcz7_0 : w4.cell? ⟨gb251, 0, none⟩ = some (.int .i64 a0_0) := (bC BK251.out 0).trans rfl
   have hcz7_1 : w4.cell? ⟨gb251, 1, none⟩ = some (.int .i64 a0_1) := (bC BK251.out 1).trans rfl
   have hcz7_2 : w4.cell? ⟨gb251, 2, none⟩ = some (.int .i64 a0_2) := (bC BK251.out 2).trans rfl
   have hcz7_3 : w4.cell? ⟨gb251, 3, none⟩ = some (.slice A0_3 l0_3.length c0_3) := (bC BK251.out 3).trans rfl
   have hcz7_4 : w4.cell? ⟨gb251, 4, none⟩ = some (.slice A0_4 l0_4.length c0_4) := (bC BK251.out 4).trans rfl
   have hcz7_5 : w4.cell? ⟨gb251, 5, none⟩ = some (.bool a0_5) := (bC BK251.out 5).trans rfl
   have hfz7_0 := bF BK251.out 0
   have hfz7_1 := bF BK251.out 1
   have hfz7_2 := bF BK251.out 2
   have hfz7_3 := bF BK251.out 3
   have hfz7_4 := bF BK251.out 4
   have hfz7_5 := bF BK251.out 5
   go_wp2
   go_meet
   case rel => exact ⟨_, (decide ((l0_3.length : Int) > 200)), (by first | rfl | (simp; done) | (simp [*]; done)), H', ⟨by first | omega | exact Nat.le_refl _⟩, ⟨by (with_reducible repeat (first | refine bN ?_ _ | refine bD ?_ | refine bA ?_ _)); exact BK251.out⟩, ⟨by repeat (first | (with_reducible first | exact HB.out | apply lA | apply lN | apply lD | refine lS ?_ GE251.out) | exact HB.out)⟩⟩
 case rest =>
  clear HC3
  try clear c1
  try clear p2
  try clear c5
  try clear c5b0
  try clear c5b1
  try clear hcz6_0
  try clear hcz6_1
  try clear hcz6_2
  try clear hcz6_3
  try clear hcz6_4
  try clear hcz6_5
  try clear hcz7_0
  try clear hcz7_1
  try clear hcz7_2
  try clear hcz7_3
  try clear hcz7_4
  try clear hcz7_5
  try clear hfz6_0
  try clear hfz6_1
  try clear hfz6_2
  try clear hfz6_3
  try clear hfz6_4
  try clear hfz6_5
  try clear hfz7_0
  try clear hfz7_1
  try clear hfz7_2
  try clear hfz7_3
  try clear hfz7_4
  try clear hfz7_5
  obtain ⟨kq, x21_2, rfl, HA, HJ2, BK251, HB⟩ := hcut
  cases kq with
  | zero => exact absurd HA.out (by simp [hornbeamlaw21_SchedSteps.j0])
  | succ kj2 =>
   have H := HA.out
   clear HA
   simp only [hornbeamlaw21_SchedSteps.j0] at H
   by_cases c8 : x21_2 = true
   ·subst c8
    have H1 : ((hornbeamlaw21_fixed.f kj2).bind fun t252 => (some t252)) = some r := by rw [if_pos rfl] at H; exact H
    clear H
    have H := H1
    clear H1
    replace H := ooB.mp H
    obtain ⟨t252, A90, H⟩ := H
    replace H : (some t252) = some r := H
    have A9 := aaM A90
    clear A90
    obtain rfl := Option.some.inj H
    go_wp2_with (first | ((with_reducible refine gate_callee (f := 21) rfl ?_); refine goesL_ (some 22) rfl rfl Try.func21 (by kernel_rfl) rfl #[] rfl (by (try simp only [List.map_toArray, List.map_cons, List.map_nil]); first | done | rfl | (simp only [List.length_drop, List.length_take]; rfl)) ?_; (with_reducible refine (hornbeamlaw21_fixed.calls kj2  t252 _ A9.out).mono ?_); rintro e w10 ⟨rfl, hb⟩; refine ⟨_, rfl, ?_⟩; have n0_ := aaM (bB (g := gb251) (o := .cells #[.int .i64 a0_0, .int .i64 a0_1, .int .i64 a0_2, .slice A0_3 l0_3.length c0_3, .slice A0_4 l0_4.length c0_4, .bool a0_5] 42 (0, 0)) (by (with_reducible repeat (first | refine bN ?_ _ | refine bD ?_ | refine bA ?_ _)); exact BK251.out) hb); have n1_ := aaM (lP (by repeat (first | (with_reducible first | exact HB.out | apply lA | apply lN | apply lD | refine lS ?_ GE251.out) | exact HB.out)) hb); clear BK251; clear HB; have BK251 := n0_; have HB := n1_; clear n0_ n1_; (try clear hb); (try clear hb2); (try clear hk); (try clear hi)))
    all_goals (go_ret; exact ⟨by first | rfl | (simp [errW_none, errW_some] <;> rfl) | (simp [*, errW_none, errW_some] <;> rfl) | (simp_all; done), by repeat (first | (with_reducible first | exact HB.out | apply lA | apply lN | apply lD | refine lS ?_ GE251.out) | exact HB.out)⟩)
   ·replace c8 := Bool.eq_false_iff.mpr c8
    subst c8
    have H1 : ((some (([] : List Int) : List Int)).bind fun y254 => (if y254.length + l0_3.length < 17592186044416 then ((some (y254 ++ l0_3 : List Int)).bind fun y257 => ((some (([] : List Bool) : List Bool)).bind fun y260 => (if y260.length + l0_4.length < 140737488355328 then ((some (y260 ++ l0_4 : List Bool)).bind fun y263 => ((sched_Step.f kj2 a0_0 a0_1 a0_2 l0_3 l0_4 a0_5 a1).bind fun bt266 => ((hornbeamref21_Step.f kj2 a0_0 a0_1 a0_2 y257 y263 a0_5 a1).bind fun bt282 => ((hornbeamlaw21_fixed.f kj2).bind fun t298 => (if t298 = true then ((sched_May.f kj2 a0_0 a0_1 a0_2 l0_3 l0_4 a0_5).bind fun t299 => ((hornbeamref21_May.f kj2 a0_0 a0_1 a0_2 y257 y263 a0_5).bind fun t300 => (if (t299 == t300) = true then ((sched_Ready.f kj2 a0_0 a0_1 a0_2 l0_3 l0_4 a0_5).bind fun t301 => ((hornbeamref21_Ready.f kj2 a0_0 a0_1 a0_2 y257 y263 a0_5).bind fun t304 => ((hornbeamref03_Same.f kj2 t301 t304).bind fun t307 => (if t307 = true then ((hornbeamref21_Same.f kj2 bt266.1 bt266.2.1 bt266.2.2.1 bt266.2.2.2.1 bt266.2.2.2.2.1 bt266.2.2.2.2.2.1 bt282.1 bt282.2.1 bt282.2.2.1 bt282.2.2.2.1 bt282.2.2.2.2.1 bt282.2.2.2.2.2.1).bind fun t308 => (if t308 = true then (if (bt266.2.2.2.2.2.2.1 == bt282.2.2.2.2.2.2.1 && (bt266.2.2.2.2.2.2.2.1 == bt282.2.2.2.2.2.2.2.1 && (bt266.2.2.2.2.2.2.2.2.1 == bt282.2.2.2.2.2.2.2.2.1))) = true then (if bt266.2.2.2.2.2.2.2.2.2 = bt282.2.2.2.2.2.2.2.2.2 then ((hornbeamref21_Same.f kj2 a0_0 a0_1 a0_2 l0_3 l0_4 a0_5 a0_0 a0_1 a0_2 y257 y263 a0_5).bind fun t309 => (some t309)) else (some false)) else (some false)) else (some false))) else (some false))))) else (some false)))) else (some false)))))) else (none)))) else (none))) = some r := by rw [if_neg (show ¬ (false = true) by decide)] at H; exact H
    clear H
    have H := H1
    clear H1
    obtain ⟨y254, hy254⟩ : ∃ y_ : List Int, y_ = (([] : List Int)) := ⟨_, rfl⟩
    replace H : (if y254.length + l0_3.length < 17592186044416 then ((some (y254 ++ l0_3 : List Int)).bind fun y257 => ((some (([] : List Bool) : List Bool)).bind fun y260 => (if y260.length + l0_4.length < 140737488355328 then ((some (y260 ++ l0_4 : List Bool)).bind fun y263 => ((sched_Step.f kj2 a0_0 a0_1 a0_2 l0_3 l0_4 a0_5 a1).bind fun bt266 => ((hornbeamref21_Step.f kj2 a0_0 a0_1 a0_2 y257 y263 a0_5 a1).bind fun bt282 => ((hornbeamlaw21_fixed.f kj2).bind fun t298 => (if t298 = true then ((sched_May.f kj2 a0_0 a0_1 a0_2 l0_3 l0_4 a0_5).bind fun t299 => ((hornbeamref21_May.f kj2 a0_0 a0_1 a0_2 y257 y263 a0_5).bind fun t300 => (if (t299 == t300) = true then ((sched_Ready.f kj2 a0_0 a0_1 a0_2 l0_3 l0_4 a0_5).bind fun t301 => ((hornbeamref21_Ready.f kj2 a0_0 a0_1 a0_2 y257 y263 a0_5).bind fun t304 => ((hornbeamref03_Same.f kj2 t301 t304).bind fun t307 => (if t307 = true then ((hornbeamref21_Same.f kj2 bt266.1 bt266.2.1 bt266.2.2.1 bt266.2.2.2.1 bt266.2.2.2.2.1 bt266.2.2.2.2.2.1 bt282.1 bt282.2.1 bt282.2.2.1 bt282.2.2.2.1 bt282.2.2.2.2.1 bt282.2.2.2.2.2.1).bind fun t308 => (if t308 = true then (if (bt266.2.2.2.2.2.2.1 == bt282.2.2.2.2.2.2.1 && (bt266.2.2.2.2.2.2.2.1 == bt282.2.2.2.2.2.2.2.1 && (bt266.2.2.2.2.2.2.2.2.1 == bt282.2.2.2.2.2.2.2.2.1))) = true then (if bt266.2.2.2.2.2.2.2.2.2 = bt282.2.2.2.2.2.2.2.2.2 then ((hornbeamref21_Same.f kj2 a0_0 a0_1 a0_2 l0_3 l0_4 a0_5 a0_0 a0_1 a0_2 y257 y263 a0_5).bind fun t309 => (some t309)) else (some false)) else (some false)) else (some false))) else (some false))))) else (some false)))) else (some false)))))) else (none)))) else (none)) = some r := by first | (rw [hy254]; with_reducible exact H) | (have H2_ := (Option.bind_some _ _).symm.trans H; rw [hy254]; with_reducible exact H2_) | (have H2_ := (Option.bind_some _ _).symm.trans H; with_reducible exact H2_) | with_reducible exact H | (rw [hy254]; exact H) | exact H
    have Ny254 := aaM hy254
    clear hy254
    by_cases c11 : y254.length + l0_3.length < 17592186044416
    ·rw [if_pos c11] at H
     have LMc11 := aaM c11
     clear c11
     obtain ⟨y257, hy257⟩ : ∃ y_ : List Int, y_ = (y254 ++ l0_3) := ⟨_, rfl⟩
     replace H : ((some (([] : List Bool) : List Bool)).bind fun y260 => (if y260.length + l0_4.length < 140737488355328 then ((some (y260 ++ l0_4 : List Bool)).bind fun y263 => ((sched_Step.f kj2 a0_0 a0_1 a0_2 l0_3 l0_4 a0_5 a1).bind fun bt266 => ((hornbeamref21_Step.f kj2 a0_0 a0_1 a0_2 y257 y263 a0_5 a1).bind fun bt282 => ((hornbeamlaw21_fixed.f kj2).bind fun t298 => (if t298 = true then ((sched_May.f kj2 a0_0 a0_1 a0_2 l0_3 l0_4 a0_5).bind fun t299 => ((hornbeamref21_May.f kj2 a0_0 a0_1 a0_2 y257 y263 a0_5).bind fun t300 => (if (t299 == t300) = true then ((sched_Ready.f kj2 a0_0 a0_1 a0_2 l0_3 l0_4 a0_5).bind fun t301 => ((hornbeamref21_Ready.f kj2 a0_0 a0_1 a0_2 y257 y263 a0_5).bind fun t304 => ((hornbeamref03_Same.f kj2 t301 t304).bind fun t307 => (if t307 = true then ((hornbeamref21_Same.f kj2 bt266.1 bt266.2.1 bt266.2.2.1 bt266.2.2.2.1 bt266.2.2.2.2.1 bt266.2.2.2.2.2.1 bt282.1 bt282.2.1 bt282.2.2.1 bt282.2.2.2.1 bt282.2.2.2.2.1 bt282.2.2.2.2.2.1).bind fun t308 => (if t308 = true then (if (bt266.2.2.2.2.2.2.1 == bt282.2.2.2.2.2.2.1 && (bt266.2.2.2.2.2.2.2.1 == bt282.2.2.2.2.2.2.2.1 && (bt266.2.2.2.2.2.2.2.2.1 == bt282.2.2.2.2.2.2.2.2.1))) = true then (if bt266.2.2.2.2.2.2.2.2.2 = bt282.2.2.2.2.2.2.2.2.2 then ((hornbeamref21_Same.f kj2 a0_0 a0_1 a0_2 l0_3 l0_4 a0_5 a0_0 a0_1 a0_2 y257 y263 a0_5).bind fun t309 => (some t309)) else (some false)) else (some false)) else (some false))) else (some false))))) else (some false)))) else (some false)))))) else (none))) = some r := by first | (rw [hy257]; with_reducible exact H) | (have H2_ := (Option.bind_some _ _).symm.trans H; rw [hy257]; with_reducible exact H2_) | (have H2_ := (Option.bind_some _ _).symm.trans H; with_reducible exact H2_) | with_reducible exact H | (rw [hy257]; exact H) | exact H
     have Ny257 := aaM hy257
     clear hy257
     obtain ⟨y260, hy260⟩ : ∃ y_ : List Bool, y_ = (([] : List Bool)) := ⟨_, rfl⟩
     replace H : (if y260.length + l0_4.length < 140737488355328 then ((some (y260 ++ l0_4 : List Bool)).bind fun y263 => ((sched_Step.f kj2 a0_0 a0_1 a0_2 l0_3 l0_4 a0_5 a1).bind fun bt266 => ((hornbeamref21_Step.f kj2 a0_0 a0_1 a0_2 y257 y263 a0_5 a1).bind fun bt282 => ((hornbeamlaw21_fixed.f kj2).bind fun t298 => (if t298 = true then ((sched_May.f kj2 a0_0 a0_1 a0_2 l0_3 l0_4 a0_5).bind fun t299 => ((hornbeamref21_May.f kj2 a0_0 a0_1 a0_2 y257 y263 a0_5).bind fun t300 => (if (t299 == t300) = true then ((sched_Ready.f kj2 a0_0 a0_1 a0_2 l0_3 l0_4 a0_5).bind fun t301 => ((hornbeamref21_Ready.f kj2 a0_0 a0_1 a0_2 y257 y263 a0_5).bind fun t304 => ((hornbeamref03_Same.f kj2 t301 t304).bind fun t307 => (if t307 = true then ((hornbeamref21_Same.f kj2 bt266.1 bt266.2.1 bt266.2.2.1 bt266.2.2.2.1 bt266.2.2.2.2.1 bt266.2.2.2.2.2.1 bt282.1 bt282.2.1 bt282.2.2.1 bt282.2.2.2.1 bt282.2.2.2.2.1 bt282.2.2.2.2.2.1).bind fun t308 => (if t308 = true then (if (bt266.2.2.2.2.2.2.1 == bt282.2.2.2.2.2.2.1 && (bt266.2.2.2.2.2.2.2.1 == bt282.2.2.2.2.2.2.2.1 && (bt266.2.2.2.2.2.2.2.2.1 == bt282.2.2.2.2.2.2.2.2.1))) = true then (if bt266.2.2.2.2.2.2.2.2.2 = bt282.2.2.2.2.2.2.2.2.2 then ((hornbeamref21_Same.f kj2 a0_0 a0_1 a0_2 l0_3 l0_4 a0_5 a0_0 a0_1 a0_2 y257 y263 a0_5).bind fun t309 => (some t309)) else (some false)) else (some false)) else (some false))) else (some false))))) else (some false)))) else (some false)))))) else (none)) = some r := by first | (rw [hy260]; with_reducible exact H) | (have H2_ := (Option.bind_some _ _).symm.trans H; rw [hy260]; with_reducible exact H2_) | (have H2_ := (Option.bind_some _ _).symm.trans H; with_reducible exact H2_) | with_reducible exact H | (rw [hy260]; exact H) | exact H
     have Ny260 := aaM hy260
     clear hy260
     by_cases c12 : y260.length + l0_4.length < 140737488355328
     ·rw [if_pos c12] at H
      have LMc12 := aaM c12
      clear c12
      obtain ⟨y263, hy263⟩ : ∃ y_ : List Bool, y_ = (y260 ++ l0_4) := ⟨_, rfl⟩
      replace H : ((sched_Step.f kj2 a0_0 a0_1 a0_2 l0_3 l0_4 a0_5 a1).bind fun bt266 => ((hornbeamref21_Step.f kj2 a0_0 a0_1 a0_2 y257 y263 a0_5 a1).bind fun bt282 => ((hornbeamlaw21_fixed.f kj2).bind fun t298 => (if t298 = true then ((sched_May.f kj2 a0_0 a0_1 a0_2 l0_3 l0_4 a0_5).bind fun t299 => ((hornbeamref21_May.f kj2 a0_0 a0_1 a0_2 y257 y263 a0_5).bind fun t300 => (if (t299 == t300) = true then ((sched_Ready.f kj2 a0_0 a0_1 a0_2 l0_3 l0_4 a0_5).bind fun t301 => ((hornbeamref21_Ready.f kj2 a0_0 a0_1 a0_2 y257 y263 a0_5).bind fun t304 => ((hornbeamref03_Same.f kj2 t301 t304).bind fun t307 => (if t307 = true then ((hornbeamref21_Same.f kj2 bt266.1 bt266.2.1 bt266.2.2.1 bt266.2.2.2.1 bt266.2.2.2.2.1 bt266.2.2.2.2.2.1 bt282.1 bt282.2.1 bt282.2.2.1 bt282.2.2.2.1 bt282.2.2.2.2.1 bt282.2.2.2.2.2.1).bind fun t308 => (if t308 = true then (if (bt266.2.2.2.2.2.2.1 == bt282.2.2.2.2.2.2.1 && (bt266.2.2.2.2.2.2.2.1 == bt282.2.2.2.2.2.2.2.1 && (bt266.2.2.2.2.2.2.2.2.1 == bt282.2.2.2.2.2.2.2.2.1))) = true then (if bt266.2.2.2.2.2.2.2.2.2 = bt282.2.2.2.2.2.2.2.2.2 then ((hornbeamref21_Same.f kj2 a0_0 a0_1 a0_2 l0_3 l0_4 a0_5 a0_0 a0_1 a0_2 y257 y263 a0_5).bind fun t309 => (some t309)) else (some false)) else (some false)) else (some false))) else (some false))))) else (some false)))) else (some false))))) = some r := by first | (rw [hy263]; with_reducible exact H) | (have H2_ := (Option.bind_some _ _).symm.trans H; rw [hy263]; with_reducible exact H2_) | (have H2_ := (Option.bind_some _ _).symm.trans H; with_reducible exact H2_) | with_reducible exact H | (rw [hy263]; exact H) | exact H
      have Ny263 := aaM hy263
      clear hy263
      replace H := ooB.mp H
      obtain ⟨⟨t266, t267, t268, t269, t272, t275, t276, t277, t278, t279⟩, A130, H⟩ := H
      replace H : ((hornbeamref21_Step.f kj2 a0_0 a0_1 a0_2 y257 y263 a0_5 a1).bind fun bt282 => ((hornbeamlaw21_fixed.f kj2).bind fun t298 => (if t298 = true then ((sched_May.f kj2 a0_0 a0_1 a0_2 l0_3 l0_4 a0_5).bind fun t299 => ((hornbeamref21_May.f kj2 a0_0 a0_1 a0_2 y257 y263 a0_5).bind fun t300 => (if (t299 == t300) = true then ((sched_Ready.f kj2 a0_0 a0_1 a0_2 l0_3 l0_4 a0_5).bind fun t301 => ((hornbeamref21_Ready.f kj2 a0_0 a0_1 a0_2 y257 y263 a0_5).bind fun t304 => ((hornbeamref03_Same.f kj2 t301 t304).bind fun t307 => (if t307 = true then ((hornbeamref21_Same.f kj2 t266 t267 t268 t269 t272 t275 bt282.1 bt282.2.1 bt282.2.2.1 bt282.2.2.2.1 bt282.2.2.2.2.1 bt282.2.2.2.2.2.1).bind fun t308 => (if t308 = true then (if (t276 == bt282.2.2.2.2.2.2.1 && (t277 == bt282.2.2.2.2.2.2.2.1 && (t278 == bt282.2.2.2.2.2.2.2.2.1))) = true then (if t279 = bt282.2.2.2.2.2.2.2.2.2 then ((hornbeamref21_Same.f kj2 a0_0 a0_1 a0_2 l0_3 l0_4 a0_5 a0_0 a0_1 a0_2 y257 y263 a0_5).bind fun t309 => (some t309)) else (some false)) else (some false)) else (some false))) else (some false))))) else (some false)))) else (some false)))) = some r := H
      have A13 := aaM A130
      clear A130
      replace H := ooB.mp H
      obtain ⟨⟨t282, t283, t284, t285, t288, t291, t292, t293, t294, t295⟩, A140, H⟩ := H
      replace H : ((hornbeamlaw21_fixed.f kj2).bind fun t298 => (if t298 = true then ((sched_May.f kj2 a0_0 a0_1 a0_2 l0_3 l0_4 a0_5).bind fun t299 => ((hornbeamref21_May.f kj2 a0_0 a0_1 a0_2 y257 y263 a0_5).bind fun t300 => (if (t299 == t300) = true then ((sched_Ready.f kj2 a0_0 a0_1 a0_2 l0_3 l0_4 a0_5).bind fun t301 => ((hornbeamref21_Ready.f kj2 a0_0 a0_1 a0_2 y257 y263 a0_5).bind fun t304 => ((hornbeamref03_Same.f kj2 t301 t304).bind fun t307 => (if t307 = true then ((hornbeamref21_Same.f kj2 t266 t267 t268 t269 t272 t275 t282 t283 t284 t285 t288 t291).bind fun t308 => (if t308 = true then (if (t276 == t292 && (t277 == t293 && (t278 == t294))) = true then (if t279 = t295 then ((hornbeamref21_Same.f kj2 a0_0 a0_1 a0_2 l0_3 l0_4 a0_5 a0_0 a0_1 a0_2 y257 y263 a0_5).bind fun t309 => (some t309)) else (some false)) else (some false)) else (some false))) else (some false))))) else (some false)))) else (some false))) = some r := H
      have A14 := aaM A140
      clear A140
      replace H := ooB.mp H
      obtain ⟨t298, A150, H⟩ := H
      replace H : (if t298 = true then ((sched_May.f kj2 a0_0 a0_1 a0_2 l0_3 l0_4 a0_5).bind fun t299 => ((hornbeamref21_May.f kj2 a0_0 a0_1 a0_2 y257 y263 a0_5).bind fun t300 => (if (t299 == t300) = true then ((sched_Ready.f kj2 a0_0 a0_1 a0_2 l0_3 l0_4 a0_5).bind fun t301 => ((hornbeamref21_Ready.f kj2 a0_0 a0_1 a0_2 y257 y263 a0_5).bind fun t304 => ((hornbeamref03_Same.f kj2 t301 t304).bind fun t307 => (if t307 = true then ((hornbeamref21_Same.f kj2 t266 t267 t268 t269 t272 t275 t282 t283 t284 t285 t288 t291).bind fun t308 => (if t308 = true then (if (t276 == t292 && (t277 == t293 && (t278 == t294))) = true then (if t279 = t295 then ((hornbeamref21_Same.f kj2 a0_0 a0_1 a0_2 l0_3 l0_4 a0_5 a0_0 a0_1 a0_2 y257 y263 a0_5).bind fun t309 => (some t309)) else (some false)) else (some false)) else (some false))) else (some false))))) else (some false)))) else (some false)) = some r := H
      have A15 := aaM A150
      clear A150
      by_cases c16 : t298 = true
      ·subst c16
       have H1 : ((sched_May.f kj2 a0_0 a0_1 a0_2 l0_3 l0_4 a0_5).bind fun t299 => ((hornbeamref21_May.f kj2 a0_0 a0_1 a0_2 y257 y263 a0_5).bind fun t300 => (if (t299 == t300) = true then ((sched_Ready.f kj2 a0_0 a0_1 a0_2 l0_3 l0_4 a0_5).bind fun t301 => ((hornbeamref21_Ready.f kj2 a0_0 a0_1 a0_2 y257 y263 a0_5).bind fun t304 => ((hornbeamref03_Same.f kj2 t301 t304).bind fun t307 => (if t307 = true then ((hornbeamref21_Same.f kj2 t266 t267 t268 t269 t272 t275 t282 t283 t284 t285 t288 t291).bind fun t308 => (if t308 = true then (if (t276 == t292 && (t277 == t293 && (t278 == t294))) = true then (if t279 = t295 then ((hornbeamref21_Same.f kj2 a0_0 a0_1 a0_2 l0_3 l0_4 a0_5 a0_0 a0_1 a0_2 y257 y263 a0_5).bind fun t309 => (some t309)) else (some false)) else (some false)) else (some false))) else (some false))))) else (some false)))) = some r := by rw [if_pos rfl] at H; exact H
       clear H
       have H := H1
       clear H1
       replace H := ooB.mp H
       obtain ⟨t299, A170, H⟩ := H
       replace H : ((hornbeamref21_May.f kj2 a0_0 a0_1 a0_2 y257 y263 a0_5).bind fun t300 => (if (t299 == t300) = true then ((sched_Ready.f kj2 a0_0 a0_1 a0_2 l0_3 l0_4 a0_5).bind fun t301 => ((hornbeamref21_Ready.f kj2 a0_0 a0_1 a0_2 y257 y263 a0_5).bind fun t304 => ((hornbeamref03_Same.f kj2 t301 t304).bind fun t307 => (if t307 = true then ((hornbeamref21_Same.f kj2 t266 t267 t268 t269 t272 t275 t282 t283 t284 t285 t288 t291).bind fun t308 => (if t308 = true then (if (t276 == t292 && (t277 == t293 && (t278 == t294))) = true then (if t279 = t295 then ((hornbeamref21_Same.f kj2 a0_0 a0_1 a0_2 l0_3 l0_4 a0_5 a0_0 a0_1 a0_2 y257 y263 a0_5).bind fun t309 => (some t309)) else (some false)) else (some false)) else (some false))) else (some false))))) else (some false))) = some r := H
       have A17 := aaM A170
       clear A170
       replace H := ooB.mp H
       obtain ⟨t300, A180, H⟩ := H
       replace H : (if (t299 == t300) = true then ((sched_Ready.f kj2 a0_0 a0_1 a0_2 l0_3 l0_4 a0_5).bind fun t301 => ((hornbeamref21_Ready.f kj2 a0_0 a0_1 a0_2 y257 y263 a0_5).bind fun t304 => ((hornbeamref03_Same.f kj2 t301 t304).bind fun t307 => (if t307 = true then ((hornbeamref21_Same.f kj2 t266 t267 t268 t269 t272 t275 t282 t283 t284 t285 t288 t291).bind fun t308 => (if t308 = true then (if (t276 == t292 && (t277 == t293 && (t278 == t294))) = true then (if t279 = t295 then ((hornbeamref21_Same.f kj2 a0_0 a0_1 a0_2 l0_3 l0_4 a0_5 a0_0 a0_1 a0_2 y257 y263 a0_5).bind fun t309 => (some t309)) else (some false)) else (some false)) else (some false))) else (some false))))) else (some false)) = some r := H
       have A18 := aaM A180
       clear A180
       by_cases c19 : (t299 == t300) = true
       ·rw [if_pos c19] at H
        have c19b0 : (t299 == t300) = true := c19
        (try (have c19b1 : decide (t299 = t300) = true := by simpa using c19))
        (try (have c19b2 : (t299 == t300) = true := by simpa using c19))
        clear c19
        replace H := ooB.mp H
        obtain ⟨t301, A200, H⟩ := H
        replace H : ((hornbeamref21_Ready.f kj2 a0_0 a0_1 a0_2 y257 y263 a0_5).bind fun t304 => ((hornbeamref03_Same.f kj2 t301 t304).bind fun t307 => (if t307 = true then ((hornbeamref21_Same.f kj2 t266 t267 t268 t269 t272 t275 t282 t283 t284 t285 t288 t291).bind fun t308 => (if t308 = true then (if (t276 == t292 && (t277 == t293 && (t278 == t294))) = true then (if t279 = t295 then ((hornbeamref21_Same.f kj2 a0_0 a0_1 a0_2 l0_3 l0_4 a0_5 a0_0 a0_1 a0_2 y257 y263 a0_5).bind fun t309 => (some t309)) else (some false)) else (some false)) else (some false))) else (some false)))) = some r := H
        have A20 := aaM A200
        clear A200
        replace H := ooB.mp H
        obtain ⟨t304, A210, H⟩ := H
        replace H : ((hornbeamref03_Same.f kj2 t301 t304).bind fun t307 => (if t307 = true then ((hornbeamref21_Same.f kj2 t266 t267 t268 t269 t272 t275 t282 t283 t284 t285 t288 t291).bind fun t308 => (if t308 = true then (if (t276 == t292 && (t277 == t293 && (t278 == t294))) = true then (if t279 = t295 then ((hornbeamref21_Same.f kj2 a0_0 a0_1 a0_2 l0_3 l0_4 a0_5 a0_0 a0_1 a0_2 y257 y263 a0_5).bind fun t309 => (some t309)) else (some false)) else (some false)) else (some false))) else (some false))) = some r := H
        have A21 := aaM A210
        clear A210
        replace H := ooB.mp H
        obtain ⟨t307, A220, H⟩ := H
        replace H : (if t307 = true then ((hornbeamref21_Same.f kj2 t266 t267 t268 t269 t272 t275 t282 t283 t284 t285 t288 t291).bind fun t308 => (if t308 = true then (if (t276 == t292 && (t277 == t293 && (t278 == t294))) = true then (if t279 = t295 then ((hornbeamref21_Same.f kj2 a0_0 a0_1 a0_2 l0_3 l0_4 a0_5 a0_0 a0_1 a0_2 y257 y263 a0_5).bind fun t309 => (some t309)) else (some false)) else (some false)) else (some false))) else (some false)) = some r := H
        have A22 := aaM A220
        clear A220
        by_cases c23 : t307 = true
        ·subst c23
         have H1 : ((hornbeamref21_Same.f kj2 t266 t267 t268 t269 t272 t275 t282 t283 t284 t285 t288 t291).bind fun t308 => (if t308 = true then (if (t276 == t292 && (t277 == t293 && (t278 == t294))) = true then (if t279 = t295 then ((hornbeamref21_Same.f kj2 a0_0 a0_1 a0_2 l0_3 l0_4 a0_5 a0_0 a0_1 a0_2 y257 y263 a0_5).bind fun t309 => (some t309)) else (some false)) else (some false)) else (some false))) = some r := by rw [if_pos rfl] at H; exact H
         clear H
         have H := H1
         clear H1
         replace H := ooB.mp H
         obtain ⟨t308, A240, H⟩ := H
         replace H : (if t308 = true then (if (t276 == t292 && (t277 == t293 && (t278 == t294))) = true then (if t279 = t295 then ((hornbeamref21_Same.f kj2 a0_0 a0_1 a0_2 l0_3 l0_4 a0_5 a0_0 a0_1 a0_2 y257 y263 a0_5).bind fun t309 => (some t309)) else (some false)) else (some false)) else (some false)) = some r := H
         have A24 := aaM A240
         clear A240
         by_cases c25 : t308 = true
         ·subst c25
          have H1 : (if (t276 == t292 && (t277 == t293 && (t278 == t294))) = true then (if t279 = t295 then ((hornbeamref21_Same.f kj2 a0_0 a0_1 a0_2 l0_3 l0_4 a0_5 a0_0 a0_1 a0_2 y257 y263 a0_5).bind fun t309 => (some t309)) else (some false)) else (some false)) = some r := by rw [if_pos rfl] at H; exact H
          clear H
          have H := H1
          clear H1
          by_cases c26 : (t276 == t292 && (t277 == t293 && (t278 == t294))) = true
          ·rw [if_pos c26] at H
           have c26b0 : (t276 == t292 && (t277 == t293 && (t278 == t294))) = true := c26
           (try (have c26b1 : decide (t276 = t292 && (t277 == t293 && (t278 == t294))) = true := by simpa using c26))
           (try (have c26b2 : (t276 == t292 && (t277 == t293 && (t278 == t294))) = true := by simpa using c26))
           clear c26
           by_cases c27 : t279 = t295
           ·rw [if_pos c27] at H
            have c27b0 : (t279 == t295) = true := beq_iff_eq.mpr c27
            have c27b1 : (t279 != t295) = false := bne_eq_false_iff_eq.mpr c27
            clear c27
            replace H := ooB.mp H
            obtain ⟨t309, A280, H⟩ := H
            replace H : (some t309) = some r := H
            have A28 := aaM A280
            clear A280
            obtain rfl := Option.some.inj H
            have hcz29_0 : wc.cell? ⟨gb251, 0, none⟩ = some (.int .i64 a0_0) := (bC BK251.out 0).trans rfl
            have hcz29_1 : wc.cell? ⟨gb251, 1, none⟩ = some (.int .i64 a0_1) := (bC BK251.out 1).trans rfl
            have hcz29_2 : wc.cell? ⟨gb251, 2, none⟩ = some (.int .i64 a0_2) := (bC BK251.out 2).trans rfl
            have hcz29_3 : wc.cell? ⟨gb251, 3, none⟩ = some (.slice A0_3 l0_3.length c0_3) := (bC BK251.out 3).trans rfl
            have hcz29_4 : wc.cell? ⟨gb251, 4, none⟩ = some (.slice A0_4 l0_4.length c0_4) := (bC BK251.out 4).trans rfl
            have hcz29_5 : wc.cell? ⟨gb251, 5, none⟩ = some (.bool a0_5) := (bC BK251.out 5).trans rfl
            have hfz29_0 := bF BK251.out 0
            have hfz29_1 := bF BK251.out 1
            have hfz29_2 := bF BK251.out 2
            have hfz29_3 := bF BK251.out 3
            have hfz29_4 := bF BK251.out 4
            have hfz29_5 := bF BK251.out 5
            try go_wp2_with (first | ((with_reducible refine gate_dst (N := 5) rfl ?_); (try (refine gate_guard (by rfl) ?_; dsimp only)); refine box_event ?hg (N := 5) ?hd (cs := #[.int .i64 0, .int .i64 0, .int .i64 0, .slice none 0 0, .slice none 0 0, .bool false]) (t := 42) ?hr ?_; (case hd => rfl); (case hg => rfl); (case hr => first | (go_simp; done) | (go_simp; rfl)); intro gb253 hg w30 hbox hb; have n0_ := aaM (bB (g := gb251) (o := .cells #[.int .i64 a0_0, .int .i64 a0_1, .int .i64 a0_2, .slice A0_3 l0_3.length c0_3, .slice A0_4 l0_4.length c0_4, .bool a0_5] 42 (0, 0)) (by (with_reducible repeat (first | refine bN ?_ _ | refine bD ?_ | refine bA ?_ _)); exact BK251.out) hb); have n1_ := aaM (lP (by repeat (first | (with_reducible first | exact HB.out | apply lA | apply lN | apply lD | refine lS ?_ GE251.out) | exact HB.out)) hb); have n2_ := aaM (hbox); have n3_ := aaM ((by rw [hg]; exact (lZ (by repeat (first | (with_reducible first | exact HB.out | apply lA | apply lN | apply lD | refine lS ?_ GE251.out) | exact HB.out))) : w.heap.size ≤ gb253)); have n4_ := aaM ((by rw [hg]; exact (lZ (by repeat (first | (with_reducible first | exact HB.out | apply lA | apply lN | apply lD | refine lS ?_ GE251.out) | exact HB.out))) : w.heap.size ≤ gb253)); have n5_ := aaM ((by rw [hg]; exact Nat.ne_of_lt (bL (g := gb251) (by (with_reducible repeat (first | refine bN ?_ _ | refine bD ?_ | refine bA ?_ _)); exact BK251.out)) : gb251 ≠ gb253)); have n6_ := aaM ((by rw [hg]; exact Nat.ne_of_gt (bL (g := gb251) (by (with_reducible repeat (first | refine bN ?_ _ | refine bD ?_ | refine bA ?_ _)); exact BK251.out)) : gb253 ≠ gb251)); clear BK251; clear HB; have BK251 := n0_; have HB := n1_; have BK253 := n2_; have GW253 := n3_; have GE253 := n4_; have NB251_253 := n5_; have NB253_251 := n6_; clear n0_ n1_ n2_ n3_ n4_ n5_ n6_; clear hb hbox hg; have hnb31 := NB253_251.out; have hnc31 := NB251_253.out; have hcz32_0 : w30.cell? ⟨gb253, 0, none⟩ = some (.int .i64 0) := (bC BK253.out 0).trans rfl; have hcz32_1 : w30.cell? ⟨gb253, 1, none⟩ = some (.int .i64 0) := (bC BK253.out 1).trans rfl; have hcz32_2 : w30.cell? ⟨gb253, 2, none⟩ = some (.int .i64 0) := (bC BK253.out 2).trans rfl; have hcz32_3 : w30.cell? ⟨gb253, 3, none⟩ = some (.slice none 0 0) := (bC BK253.out 3).trans rfl; have hcz32_4 : w30.cell? ⟨gb253, 4, none⟩ = some (.slice none 0 0) := (bC BK253.out 4).trans rfl; have hcz32_5 : w30.cell? ⟨gb253, 5, none⟩ = some (.bool false) := (bC BK253.out 5).trans rfl; have hfz32_0 := bF BK253.out 0; have hfz32_1 := bF BK253.out 1; have hfz32_2 := bF BK253.out 2; have hfz32_3 := bF BK253.out 3; have hfz32_4 := bF BK253.out 4; have hfz32_5 := bF BK253.out 5))
            have n0_ : Aside0 (((((((w30.setCell ⟨gb253, 0, none⟩ (.int .i64 a0_0)).setCell ⟨gb253, 1, none⟩ (.int .i64 a0_1)).setCell ⟨gb253, 2, none⟩ (.int .i64 a0_2)).setCell ⟨gb253, 3, none⟩ (.slice A0_3 l0_3.length c0_3)).setCell ⟨gb253, 4, none⟩ (.slice A0_4 l0_4.length c0_4)).setCell ⟨gb253, 5, none⟩ (.bool a0_5)).heap[gb251]? = some (.cells #[.int .i64 a0_0, .int .i64 a0_1, .int .i64 a0_2, .slice A0_3 l0_3.length c0_3, .slice A0_4 l0_4.length c0_4, .bool a0_5] 42 (0, 0))) := ⟨by (with_reducible repeat (first | refine bN ?_ _ | refine bD ?_ | refine bA ?_ _)); refine blk_far ?_ NB251_253.out _; (with_reducible repeat (first | refine bN ?_ _ | refine bD ?_ | refine bA ?_ _)); refine blk_far ?_ NB251_253.out _; (with_reducible repeat (first | refine bN ?_ _ | refine bD ?_ | refine bA ?_ _)); refine blk_far ?_ NB251_253.out _; (with_reducible repeat (first | refine bN ?_ _ | refine bD ?_ | refine bA ?_ _)); refine blk_far ?_ NB251_253.out _; (with_reducible repeat (first | refine bN ?_ _ | refine bD ?_ | refine bA ?_ _)); refine blk_far ?_ NB251_253.out _; (with_reducible repeat (first | refine bN ?_ _ | refine bD ?_ | refine bA ?_ _)); refine blk_far ?_ NB251_253.out _; (with_reducible repeat (first | refine bN ?_ _ | refine bD ?_ | refine bA ?_ _)); exact BK251.out⟩
            have n1_ : Aside0 (((((((w30.setCell ⟨gb253, 0, none⟩ (.int .i64 a0_0)).setCell ⟨gb253, 1, none⟩ (.int .i64 a0_1)).setCell ⟨gb253, 2, none⟩ (.int .i64 a0_2)).setCell ⟨gb253, 3, none⟩ (.slice A0_3 l0_3.length c0_3)).setCell ⟨gb253, 4, none⟩ (.slice A0_4 l0_4.length c0_4)).setCell ⟨gb253, 5, none⟩ (.bool a0_5)).heap[gb253]? = some (.cells #[.int .i64 a0_0, .int .i64 a0_1, .int .i64 a0_2, .slice A0_3 l0_3.length c0_3, .slice A0_4 l0_4.length c0_4, .bool a0_5] 42 (0, 0))) := ⟨by (with_reducible repeat (first | refine bN ?_ _ | refine bD ?_ | refine bA ?_ _)); refine blk_put (cs := #[.int .i64 a0_0, .int .i64 a0_1, .int .i64 a0_2, .slice A0_3 l0_3.length c0_3, .slice A0_4 l0_4.length c0_4, .bool false]) ?_ 5 _ rfl; (with_reducible repeat (first | refine bN ?_ _ | refine bD ?_ | refine bA ?_ _)); refine blk_put (cs := #[.int .i64 a0_0, .int .i64 a0_1, .int .i64 a0_2, .slice A0_3 l0_3.length c0_3, .slice none 0 0, .bool false]) ?_ 4 _ rfl; (with_reducible repeat (first | refine bN ?_ _ | refine bD ?_ | refine bA ?_ _)); refine blk_put (cs := #[.int .i64 a0_0, .int .i64 a0_1, .int .i64 a0_2, .slice none 0 0, .slice none 0 0, .bool false]) ?_ 3 _ rfl; (with_reducible repeat (first | refine bN ?_ _ | refine bD ?_ | refine bA ?_ _)); refine blk_put (cs := #[.int .i64 a0_0, .int .i64 a0_1, .int .i64 0, .slice none 0 0, .slice none 0 0, .bool false]) ?_ 2 _ rfl; (with_reducible repeat (first | refine bN ?_ _ | refine bD ?_ | refine bA ?_ _)); refine blk_put (cs := #[.int .i64 a0_0, .int .i64 0, .int .i64 0, .slice none 0 0, .slice none 0 0, .bool false]) ?_ 1 _ rfl; (with_reducible repeat (first | refine bN ?_ _ | refine bD ?_ | refine bA ?_ _)); refine blk_put (cs := #[.int .i64 0, .int .i64 0, .int .i64 0, .slice none 0 0, .slice none 0 0, .bool false]) ?_ 0 _ rfl; (with_reducible repeat (first | refine bN ?_ _ | refine bD ?_ | refine bA ?_ _)); exact BK253.out⟩
            have n2_ : Aside0 (Below w.heap.size w ((((((w30.setCell ⟨gb253, 0, none⟩ (.int .i64 a0_0)).setCell ⟨gb253, 1, none⟩ (.int .i64 a0_1)).setCell ⟨gb253, 2, none⟩ (.int .i64 a0_2)).setCell ⟨gb253, 3, none⟩ (.slice A0_3 l0_3.length c0_3)).setCell ⟨gb253, 4, none⟩ (.slice A0_4 l0_4.length c0_4)).setCell ⟨gb253, 5, none⟩ (.bool a0_5))) := ⟨by repeat (first | (with_reducible first | exact HB.out | apply lA | apply lN | apply lD | refine lS ?_ GE251.out | refine lS ?_ GE253.out) | exact HB.out)⟩
            (try clear BK251)
            (try clear BK253)
            (try clear HB)
            generalize ((((((w30.setCell ⟨gb253, 0, none⟩ (.int .i64 a0_0)).setCell ⟨gb253, 1, none⟩ (.int .i64 a0_1)).setCell ⟨gb253, 2, none⟩ (.int .i64 a0_2)).setCell ⟨gb253, 3, none⟩ (.slice A0_3 l0_3.length c0_3)).setCell ⟨gb253, 4, none⟩ (.slice A0_4 l0_4.length c0_4)).setCell ⟨gb253, 5, none⟩ (.bool a0_5)) = w33 at n0_ n1_ n2_ ⊢
            have BK251 := n0_
            have BK253 := n1_
            have HB := n2_
            clear n0_ n1_ n2_
            have n0_ := aaM (bD BK251.out)
            have n1_ := aaM (bD BK253.out)
            have n2_ := aaM (lD HB.out)
            clear BK251 BK253 HB
            have BK251 := n0_
            have BK253 := n1_
            have HB := n2_
            clear n0_ n1_ n2_
            refine start_ (n := 12) (S := fun w' => w'.cell? ⟨gb251, 0, none⟩ = some (.int .i64 a0_0) ∧ w'.cell? ⟨gb251, 1, none⟩ = some (.int .i64 a0_1) ∧ w'.cell? ⟨gb251, 2, none⟩ = some (.int .i64 a0_2) ∧ w'.cell? ⟨gb251, 3, none⟩ = some (.slice A0_3 l0_3.length c0_3) ∧ w'.cell? ⟨gb251, 4, none⟩ = some (.slice A0_4 l0_4.length c0_4) ∧ w'.cell? ⟨gb251, 5, none⟩ = some (.bool a0_5)) (ds := []) #[false, false, false, false, false, false, false, false, false, false, false, false] (by kernel_rfl) rfl rfl ⟨(bC BK251.out 0).trans rfl, (bC BK251.out 1).trans rfl, (bC BK251.out 2).trans rfl, (bC BK251.out 3).trans rfl, (bC BK251.out 4).trans rfl, (bC BK251.out 5).trans rfl⟩ (fun hHeld => ?_); refine with_tabW hornbeamlaw21_SchedSteps.tab4 hornbeamlaw21_SchedSteps.bits4 (fun HT_ HW_ => ?_)
            generalize w33.drew = w34 at BK251 BK253 HB hHeld ⊢
            refine pure_ (i := 1) (N := some 25) (v := ?_) (a' := ?_) #[false, true, false, false, false, false, false, false, false, false, false, false] rfl rfl (any_of HT_.out (by kernel_rfl)) (fun _ _ _ h => h) (Or.inl ⟨by rfl, ?_⟩) ?_ ?_
            rotate_left
            ·intro w'
             go_simp
             with_reducible rfl
            rotate_left
            ·simp only [Act.put, ssB, ssZ, ssS, i64_w, i32_w]
             rfl
            refine pure_ (i := 5) (N := some 29) (v := ?_) (a' := ?_) #[false, true, false, false, false, true, false, false, false, false, false, false] rfl rfl (any_of HT_.out (by kernel_rfl)) (fun _ _ _ h => h) (Or.inl ⟨by rfl, ?_⟩) ?_ ?_
            rotate_left
            ·intro w'
             go_simp
             with_reducible rfl
            rotate_left
            ·simp only [Act.put, ssB, ssZ, ssS, i64_w, i32_w]
             rfl
            refine take_ (i := 2) (N := some 26) (v := ?_) (a' := ?_) #[false, true, true, false, false, true, false, false, false, false, false, false] rfl rfl (take_ofW HT_.out HW_.out (by kernel_rfl)) (fun _ _ _ h => h) (Or.inl ⟨by rfl, ?_⟩) hHeld ?_ ?_
            rotate_left
            ·rintro w' ⟨s0, s1, s2, s3, s4, s5⟩
             go_simp
             with_reducible rfl
            rotate_left
            ·simp only [Act.put, ssB, ssZ, ssS, i64_w, i32_w]
             rfl
            refine take_ (i := 6) (N := some 30) (v := ?_) (a' := ?_) #[false, true, true, false, false, true, true, false, false, false, false, false] rfl rfl (take_ofW HT_.out HW_.out (by kernel_rfl)) (fun _ _ _ h => h) (Or.inl ⟨by rfl, ?_⟩) hHeld ?_ ?_
            rotate_left
            ·rintro w' ⟨s0, s1, s2, s3, s4, s5⟩
             go_simp
             with_reducible rfl
            rotate_left
            ·simp only [Act.put, ssB, ssZ, ssS, i64_w, i32_w]
             rfl
            refine join_ (σ := Value × Value × Value) 4 #[true, true, true, true, true, true, true, false, true, false, false, false] (fun s_ => [(24, s_.1), (27, s_.2.1), (28, s_.2.2), (32, .pointer (some ⟨gb253, 3, none⟩))]) (fun s_ w' => (w'.cell? ⟨gb251, 0, none⟩ = some (.int .i64 a0_0) ∧ w'.cell? ⟨gb251, 1, none⟩ = some (.int .i64 a0_1) ∧ w'.cell? ⟨gb251, 2, none⟩ = some (.int .i64 a0_2) ∧ w'.cell? ⟨gb251, 3, none⟩ = some (.slice A0_3 l0_3.length c0_3) ∧ w'.cell? ⟨gb251, 4, none⟩ = some (.slice A0_4 l0_4.length c0_4) ∧ w'.cell? ⟨gb251, 5, none⟩ = some (.bool a0_5)) ∧ (Kd.R (Kd.int .i64) 3 w' w.heap.size (fun _ => True) s_.2.1 y257) ∧ (Kd.R Kd.bool 4 w' w.heap.size (fun _ => True) s_.2.2 y260) ∧ (w'.heap[gb251]? = some (.cells #[.int .i64 a0_0, .int .i64 a0_1, .int .i64 a0_2, .slice A0_3 l0_3.length c0_3, .slice A0_4 l0_4.length c0_4, .bool a0_5] 42 (0, 0))) ∧ (w'.heap[gb253]? = some (.cells #[.int .i64 a0_0, .int .i64 a0_1, .int .i64 a0_2, .slice A0_3 l0_3.length c0_3, .slice A0_4 l0_4.length c0_4, .bool a0_5] 42 (0, 0))) ∧ (Below w.heap.size w w')) ?_ ?_
            rotate_left
            ·intro hCont
             refine two_ (i := 0) (j := 4) (Ni := some 24) (Nj := some 28) #[true, true, true, false, false, true, true, false, false, false, false, false] #[false, true, true, false, true, true, true, false, false, false, false, false] rfl rfl rfl rfl (two_of HT_.out (by kernel_rfl)) (by decide) (by decide) (fun K hK => ?_) (fun K hK => ?_)
             ·skip
              refine Kd.R_lit_step (Kd.int .i64) _ 3 ?hg (N := 24) ?hd (xs := ([] : List Int)) (inner := []) (ok := fun _ => True) (okp := fun _ => True) ?hr ?hp (fun _ hk => hk) trivial (Below.refl _ _) (Nat.le_refl _) (by simp) ?_; (case hd => rfl); (case hg => rfl); (case hr => first | (go_simp; done) | (go_simp; rfl)); (case hp => exact (Reps.none _ _))
              intro v255 w35 ho36 hb hg_ hnew_
              clear hg_ hnew_
              (first | rw [← Ny254.out] at ho36 | (simp only [Int.reduceToNat] at ho36; rw [← Ny254.out] at ho36))
              have n0_ := aaM (Kd.R_lower ho36 (lZ (by repeat (first | (with_reducible first | exact HB.out | apply lA | apply lN | apply lD | refine lS ?_ GE251.out | refine lS ?_ GE253.out) | exact HB.out))))
              have n1_ := aaM (bB (g := gb251) (o := .cells #[.int .i64 a0_0, .int .i64 a0_1, .int .i64 a0_2, .slice A0_3 l0_3.length c0_3, .slice A0_4 l0_4.length c0_4, .bool a0_5] 42 (0, 0)) (by (with_reducible repeat (first | refine bN ?_ _ | refine bD ?_ | refine bA ?_ _)); exact BK251.out) hb)
              have n2_ := aaM (bB (g := gb253) (o := .cells #[.int .i64 a0_0, .int .i64 a0_1, .int .i64 a0_2, .slice A0_3 l0_3.length c0_3, .slice A0_4 l0_4.length c0_4, .bool a0_5] 42 (0, 0)) (by (with_reducible repeat (first | refine bN ?_ _ | refine bD ?_ | refine bA ?_ _)); exact BK253.out) hb)
              have n3_ := aaM (lP (by repeat (first | (with_reducible first | exact HB.out | apply lA | apply lN | apply lD | refine lS ?_ GE251.out | refine lS ?_ GE253.out) | exact HB.out)) hb)
              clear BK251 BK253 HB
              have HO256 := n0_
              have BK251 := n1_
              have BK253 := n2_
              have HB := n3_
              clear n0_ n1_ n2_ n3_ hb ho36
              refine hK.out _ _ ⟨(bC BK251.out 0).trans rfl, (bC BK251.out 1).trans rfl, (bC BK251.out 2).trans rfl, (bC BK251.out 3).trans rfl, (bC BK251.out 4).trans rfl, (bC BK251.out 5).trans rfl⟩ (fun hHeld => ?_)
              clear hK K
              refine norm_ (a' := ?_) ?_ ?_
              rotate_left
              ·show Act.put _ (some 24) _ = _
               simp only [Act.put, ssB, ssZ, ssS, i64_w, i32_w]
               rfl
              refine two_ (i := 3) (j := 4) (Ni := some 27) (Nj := some 28) #[true, true, true, true, false, true, true, false, false, false, false, false] #[true, true, true, false, true, true, true, false, false, false, false, false] rfl rfl rfl rfl (two_of HT_.out (by kernel_rfl)) (by decide) (by decide) (fun K hK => ?_) (fun K hK => ?_)
              ·skip
               refine Kd.R_append_rows_step (Kd.int .i64) (w0 := w) w.heap.size (by rfl) (.tmp 24) (.tmp 26) 38 3 (.int .i64 0) 8 rfl Try.underlying38 info3 rfl (by decide) (by omega) v255 y254 l0_3 _ _ _ (fun _ => True) (fun _ => False) rfl rfl ?aO ?aR (fun _ _ h => h) (fun _ h => h.elim) ?aF ?aB ?aS ?aL ?_
               (case aR => repeat (first | exact (ccB HR0_3.out HB.out) | (with_reducible refine ccA ?_ _) | (with_reducible refine ccN ?_ _) | (with_reducible refine ccD ?_)))
               (case aB => exact (by repeat (first | (with_reducible first | exact HB.out | apply lA | apply lN | apply lD | refine lS ?_ GE251.out | refine lS ?_ GE253.out) | exact HB.out)))
               (case aF => exact (fun _ _ => trivial))
               (case aO => exact (by (with_reducible repeat (first | apply rrA | apply rrN | apply rrD)); exact HO256.out))
               (case aS => exact (lZ (by repeat (first | (with_reducible first | exact HB.out | apply lA | apply lN | apply lD | refine lS ?_ GE251.out | refine lS ?_ GE253.out) | exact HB.out))))
               (case aL => have := LMc11.out; omega)
               intro v258 w37 ho hb hg hat
               rw [← Ny257.out] at ho
               have n0_ := aaM (blk_grown (g := gb251) (by (with_reducible repeat (first | refine bN ?_ _ | refine bD ?_ | refine bA ?_ _)); exact BK251.out) hg (Kd.R_ne HO256.out BK251.out (by decide)))
               have n1_ := aaM (blk_grown (g := gb253) (by (with_reducible repeat (first | refine bN ?_ _ | refine bD ?_ | refine bA ?_ _)); exact BK253.out) hg (Kd.R_ne HO256.out BK253.out (by decide)))
               have n2_ := aaM (hb)
               have n3_ := aaM (ho)
               clear BK251 BK253 HB HO256
               have BK251 := n0_
               have BK253 := n1_
               have HB := n2_
               have HO259 := n3_
               clear n0_ n1_ n2_ n3_ ho hb hg hat
               refine hK.out _ _ ⟨(bC BK251.out 0).trans rfl, (bC BK251.out 1).trans rfl, (bC BK251.out 2).trans rfl, (bC BK251.out 3).trans rfl, (bC BK251.out 4).trans rfl, (bC BK251.out 5).trans rfl⟩ (fun hHeld => ?_)
               clear hK K
               refine norm_ (a' := ?_) ?_ ?_
               rotate_left
               ·show Act.put _ (some 27) _ = _
                simp only [Act.put, ssB, ssZ, ssS, i64_w, i32_w]
                rfl
               refine pure_ (i := 8) (N := some 32) (v := ?_) (a' := ?_) #[true, true, true, true, false, true, true, false, true, false, false, false] rfl rfl (any_of HT_.out (by kernel_rfl)) (fun _ _ _ h => h) (Or.inl ⟨by rfl, ?_⟩) ?_ ?_
               rotate_left
               ·intro w'
                go_simp
                with_reducible rfl
               rotate_left
               ·simp only [Act.put, ssB, ssZ, ssS, i64_w, i32_w]
                rfl
               refine one_ (i := 4) (N := some 28) #[true, true, true, true, true, true, true, false, true, false, false, false] rfl rfl (one_of HT_.out (by kernel_rfl)) (by decide) (fun K hK => ?_)
               refine Kd.R_lit_step Kd.bool _ 4 ?hg (N := 28) ?hd (xs := ([] : List Bool)) (inner := []) (ok := fun _ => True) (okp := fun _ => True) ?hr ?hp (fun _ hk => hk) trivial (Below.refl _ _) (Nat.le_refl _) (by simp) ?_; (case hd => rfl); (case hg => rfl); (case hr => first | (go_simp; done) | (go_simp; rfl)); (case hp => exact (Reps.none _ _))
               intro v261 w38 ho39 hb hg_ hnew_
               clear hg_ hnew_
               (first | rw [← Ny260.out] at ho39 | (simp only [Int.reduceToNat] at ho39; rw [← Ny260.out] at ho39))
               have n0_ := aaM (rrB (by (with_reducible repeat (first | apply rrA | apply rrN | apply rrD)); exact HO259.out) hb)
               have n1_ := aaM (Kd.R_lower ho39 (lZ (by repeat (first | (with_reducible first | exact HB.out | apply lA | apply lN | apply lD | refine lS ?_ GE251.out | refine lS ?_ GE253.out) | exact HB.out))))
               have n2_ := aaM (bB (g := gb251) (o := .cells #[.int .i64 a0_0, .int .i64 a0_1, .int .i64 a0_2, .slice A0_3 l0_3.length c0_3, .slice A0_4 l0_4.length c0_4, .bool a0_5] 42 (0, 0)) (by (with_reducible repeat (first | refine bN ?_ _ | refine bD ?_ | refine bA ?_ _)); exact BK251.out) hb)
               have n3_ := aaM (bB (g := gb253) (o := .cells #[.int .i64 a0_0, .int .i64 a0_1, .int .i64 a0_2, .slice A0_3 l0_3.length c0_3, .slice A0_4 l0_4.length c0_4, .bool a0_5] 42 (0, 0)) (by (with_reducible repeat (first | refine bN ?_ _ | refine bD ?_ | refine bA ?_ _)); exact BK253.out) hb)
               have n4_ := aaM (lP (by repeat (first | (with_reducible first | exact HB.out | apply lA | apply lN | apply lD | refine lS ?_ GE251.out | refine lS ?_ GE253.out) | exact HB.out)) hb)
               clear HO259 BK251 BK253 HB
               have HO259 := n0_
               have HO262 := n1_
               have BK251 := n2_
               have BK253 := n3_
               have HB := n4_
               clear n0_ n1_ n2_ n3_ n4_ hb ho39
               refine hK.out _ _ ⟨(bC BK251.out 0).trans rfl, (bC BK251.out 1).trans rfl, (bC BK251.out 2).trans rfl, (bC BK251.out 3).trans rfl, (bC BK251.out 4).trans rfl, (bC BK251.out 5).trans rfl⟩ (fun hHeld => ?_)
               clear hK K
               refine norm_ (a' := ?_) ?_ ?_
               rotate_left
               ·show Act.put _ (some 28) _ = _
                simp only [Act.put, ssB, ssZ, ssS, i64_w, i32_w]
                rfl
               exact norm_ (by simp only [putAll, Act.put, ssB, ssZ, ssS]) (hCont (v255, v258, v261) _ ⟨hHeld, (by (with_reducible repeat (first | apply rrA | apply rrN | apply rrD)); exact HO259.out), (by (with_reducible repeat (first | apply rrA | apply rrN | apply rrD)); exact HO262.out), (by (with_reducible repeat (first | refine bN ?_ _ | refine bD ?_ | refine bA ?_ _)); exact BK251.out), (by (with_reducible repeat (first | refine bN ?_ _ | refine bD ?_ | refine bA ?_ _)); exact BK253.out), (by repeat (first | (with_reducible first | exact HB.out | apply lA | apply lN | apply lD | refine lS ?_ GE251.out | refine lS ?_ GE253.out) | exact HB.out))⟩)
              ·skip
               refine Kd.R_lit_step Kd.bool _ 4 ?hg (N := 28) ?hd (xs := ([] : List Bool)) (inner := []) (ok := fun _ => True) (okp := fun _ => True) ?hr ?hp (fun _ hk => hk) trivial (Below.refl _ _) (Nat.le_refl _) (by simp) ?_; (case hd => rfl); (case hg => rfl); (case hr => first | (go_simp; done) | (go_simp; rfl)); (case hp => exact (Reps.none _ _))
               intro v261 w37 ho38 hb hg_ hnew_
               clear hg_ hnew_
               (first | rw [← Ny260.out] at ho38 | (simp only [Int.reduceToNat] at ho38; rw [← Ny260.out] at ho38))
               have n0_ := aaM (rrB (by (with_reducible repeat (first | apply rrA | apply rrN | apply rrD)); exact HO256.out) hb)
               have n1_ := aaM (Kd.R_lower ho38 (lZ (by repeat (first | (with_reducible first | exact HB.out | apply lA | apply lN | apply lD | refine lS ?_ GE251.out | refine lS ?_ GE253.out) | exact HB.out))))
               have n2_ := aaM (bB (g := gb251) (o := .cells #[.int .i64 a0_0, .int .i64 a0_1, .int .i64 a0_2, .slice A0_3 l0_3.length c0_3, .slice A0_4 l0_4.length c0_4, .bool a0_5] 42 (0, 0)) (by (with_reducible repeat (first | refine bN ?_ _ | refine bD ?_ | refine bA ?_ _)); exact BK251.out) hb)
               have n3_ := aaM (bB (g := gb253) (o := .cells #[.int .i64 a0_0, .int .i64 a0_1, .int .i64 a0_2, .slice A0_3 l0_3.length c0_3, .slice A0_4 l0_4.length c0_4, .bool a0_5] 42 (0, 0)) (by (with_reducible repeat (first | refine bN ?_ _ | refine bD ?_ | refine bA ?_ _)); exact BK253.out) hb)
               have n4_ := aaM (lP (by repeat (first | (with_reducible first | exact HB.out | apply lA | apply lN | apply lD | refine lS ?_ GE251.out | refine lS ?_ GE253.out) | exact HB.out)) hb)
               clear HO256 BK251 BK253 HB
               have HO256 := n0_
               have HO262 := n1_
               have BK251 := n2_
               have BK253 := n3_
               have HB := n4_
               clear n0_ n1_ n2_ n3_ n4_ hb ho38
               refine hK.out _ _ ⟨(bC BK251.out 0).trans rfl, (bC BK251.out 1).trans rfl, (bC BK251.out 2).trans rfl, (bC BK251.out 3).trans rfl, (bC BK251.out 4).trans rfl, (bC BK251.out 5).trans rfl⟩ (fun hHeld => ?_)
               clear hK K
               refine norm_ (a' := ?_) ?_ ?_
               rotate_left
               ·show Act.put _ (some 28) _ = _
                simp only [Act.put, ssB, ssZ, ssS, i64_w, i32_w]
                rfl
               refine one_ (i := 3) (N := some 27) #[true, true, true, true, true, true, true, false, false, false, false, false] rfl rfl (one_of HT_.out (by kernel_rfl)) (by decide) (fun K hK => ?_)
               refine Kd.R_append_rows_step (Kd.int .i64) (w0 := w) w.heap.size (by rfl) (.tmp 24) (.tmp 26) 38 3 (.int .i64 0) 8 rfl Try.underlying38 info3 rfl (by decide) (by omega) v255 y254 l0_3 _ _ _ (fun _ => True) (fun _ => False) rfl rfl ?aO ?aR (fun _ _ h => h) (fun _ h => h.elim) ?aF ?aB ?aS ?aL ?_
               (case aR => repeat (first | exact (ccB HR0_3.out HB.out) | (with_reducible refine ccA ?_ _) | (with_reducible refine ccN ?_ _) | (with_reducible refine ccD ?_)))
               (case aB => exact (by repeat (first | (with_reducible first | exact HB.out | apply lA | apply lN | apply lD | refine lS ?_ GE251.out | refine lS ?_ GE253.out) | exact HB.out)))
               (case aF => exact (fun _ _ => trivial))
               (case aO => exact (by (with_reducible repeat (first | apply rrA | apply rrN | apply rrD)); exact HO256.out))
               (case aS => exact (lZ (by repeat (first | (with_reducible first | exact HB.out | apply lA | apply lN | apply lD | refine lS ?_ GE251.out | refine lS ?_ GE253.out) | exact HB.out))))
               (case aL => have := LMc11.out; omega)
               intro v258 w39 ho hb hg hat
               rw [← Ny257.out] at ho
               have n0_ := aaM (blk_grown (g := gb251) (by (with_reducible repeat (first | refine bN ?_ _ | refine bD ?_ | refine bA ?_ _)); exact BK251.out) hg (Kd.R_ne HO256.out BK251.out (by decide)))
               have n1_ := aaM (blk_grown (g := gb253) (by (with_reducible repeat (first | refine bN ?_ _ | refine bD ?_ | refine bA ?_ _)); exact BK253.out) hg (Kd.R_ne HO256.out BK253.out (by decide)))
               have n2_ := aaM (Kd.R_over' (by (with_reducible repeat (first | apply rrA | apply rrN | apply rrD)); exact HO262.out) (Kd.R_typed (by (with_reducible repeat (first | apply rrA | apply rrN | apply rrD)); exact HO256.out)) (by decide) hg)
               have n3_ := aaM (hb)
               have n4_ := aaM (ho)
               clear BK251 BK253 HO262 HB HO256
               have BK251 := n0_
               have BK253 := n1_
               have HO262 := n2_
               have HB := n3_
               have HO259 := n4_
               clear n0_ n1_ n2_ n3_ n4_ ho hb hg hat
               refine hK.out _ _ ⟨(bC BK251.out 0).trans rfl, (bC BK251.out 1).trans rfl, (bC BK251.out 2).trans rfl, (bC BK251.out 3).trans rfl, (bC BK251.out 4).trans rfl, (bC BK251.out 5).trans rfl⟩ (fun hHeld => ?_)
               clear hK K
               refine norm_ (a' := ?_) ?_ ?_
               rotate_left
               ·show Act.put _ (some 27) _ = _
                simp only [Act.put, ssB, ssZ, ssS, i64_w, i32_w]
                rfl
               refine pure_ (i := 8) (N := some 32) (v := ?_) (a' := ?_) #[true, true, true, true, true, true, true, false, true, false, false, false] rfl rfl (any_of HT_.out (by kernel_rfl)) (fun _ _ _ h => h) (Or.inl ⟨by rfl, ?_⟩) ?_ ?_
               rotate_left
               ·intro w'
                go_simp
                with_reducible rfl
               rotate_left
               ·simp only [Act.put, ssB, ssZ, ssS, i64_w, i32_w]
                rfl
               exact norm_ (by simp only [putAll, Act.put, ssB, ssZ, ssS]) (hCont (v255, v258, v261) _ ⟨hHeld, (by (with_reducible repeat (first | apply rrA | apply rrN | apply rrD)); exact HO259.out), (by (with_reducible repeat (first | apply rrA | apply rrN | apply rrD)); exact HO262.out), (by (with_reducible repeat (first | refine bN ?_ _ | refine bD ?_ | refine bA ?_ _)); exact BK251.out), (by (with_reducible repeat (first | refine bN ?_ _ | refine bD ?_ | refine bA ?_ _)); exact BK253.out), (by repeat (first | (with_reducible first | exact HB.out | apply lA | apply lN | apply lD | refine lS ?_ GE251.out | refine lS ?_ GE253.out) | exact HB.out))⟩)
             ·skip
              refine Kd.R_lit_step Kd.bool _ 4 ?hg (N := 28) ?hd (xs := ([] : List Bool)) (inner := []) (ok := fun _ => True) (okp := fun _ => True) ?hr ?hp (fun _ hk => hk) trivial (Below.refl _ _) (Nat.le_refl _) (by simp) ?_; (case hd => rfl); (case hg => rfl); (case hr => first | (go_simp; done) | (go_simp; rfl)); (case hp => exact (Reps.none _ _))
              intro v261 w35 ho36 hb hg_ hnew_
              clear hg_ hnew_
              (first | rw [← Ny260.out] at ho36 | (simp only [Int.reduceToNat] at ho36; rw [← Ny260.out] at ho36))
              have n0_ := aaM (Kd.R_lower ho36 (lZ (by repeat (first | (with_reducible first | exact HB.out | apply lA | apply lN | apply lD | refine lS ?_ GE251.out | refine lS ?_ GE253.out) | exact HB.out))))
              have n1_ := aaM (bB (g := gb251) (o := .cells #[.int .i64 a0_0, .int .i64 a0_1, .int .i64 a0_2, .slice A0_3 l0_3.length c0_3, .slice A0_4 l0_4.length c0_4, .bool a0_5] 42 (0, 0)) (by (with_reducible repeat (first | refine bN ?_ _ | refine bD ?_ | refine bA ?_ _)); exact BK251.out) hb)
              have n2_ := aaM (bB (g := gb253) (o := .cells #[.int .i64 a0_0, .int .i64 a0_1, .int .i64 a0_2, .slice A0_3 l0_3.length c0_3, .slice A0_4 l0_4.length c0_4, .bool a0_5] 42 (0, 0)) (by (with_reducible repeat (first | refine bN ?_ _ | refine bD ?_ | refine bA ?_ _)); exact BK253.out) hb)
              have n3_ := aaM (lP (by repeat (first | (with_reducible first | exact HB.out | apply lA | apply lN | apply lD | refine lS ?_ GE251.out | refine lS ?_ GE253.out) | exact HB.out)) hb)
              clear BK251 BK253 HB
              have HO262 := n0_
              have BK251 := n1_
              have BK253 := n2_
              have HB := n3_
              clear n0_ n1_ n2_ n3_ hb ho36
              refine hK.out _ _ ⟨(bC BK251.out 0).trans rfl, (bC BK251.out 1).trans rfl, (bC BK251.out 2).trans rfl, (bC BK251.out 3).trans rfl, (bC BK251.out 4).trans rfl, (bC BK251.out 5).trans rfl⟩ (fun hHeld => ?_)
              clear hK K
              refine norm_ (a' := ?_) ?_ ?_
              rotate_left
              ·show Act.put _ (some 28) _ = _
               simp only [Act.put, ssB, ssZ, ssS, i64_w, i32_w]
               rfl
              refine one_ (i := 0) (N := some 24) #[true, true, true, false, true, true, true, false, false, false, false, false] rfl rfl (one_of HT_.out (by kernel_rfl)) (by decide) (fun K hK => ?_)
              refine Kd.R_lit_step (Kd.int .i64) _ 3 ?hg (N := 24) ?hd (xs := ([] : List Int)) (inner := []) (ok := fun _ => True) (okp := fun _ => True) ?hr ?hp (fun _ hk => hk) trivial (Below.refl _ _) (Nat.le_refl _) (by simp) ?_; (case hd => rfl); (case hg => rfl); (case hr => first | (go_simp; done) | (go_simp; rfl)); (case hp => exact (Reps.none _ _))
              intro v255 w37 ho38 hb hg_ hnew_
              clear hg_ hnew_
              (first | rw [← Ny254.out] at ho38 | (simp only [Int.reduceToNat] at ho38; rw [← Ny254.out] at ho38))
              have n0_ := aaM (rrB (by (with_reducible repeat (first | apply rrA | apply rrN | apply rrD)); exact HO262.out) hb)
              have n1_ := aaM (Kd.R_lower ho38 (lZ (by repeat (first | (with_reducible first | exact HB.out | apply lA | apply lN | apply lD | refine lS ?_ GE251.out | refine lS ?_ GE253.out) | exact HB.out))))
              have n2_ := aaM (bB (g := gb251) (o := .cells #[.int .i64 a0_0, .int .i64 a0_1, .int .i64 a0_2, .slice A0_3 l0_3.length c0_3, .slice A0_4 l0_4.length c0_4, .bool a0_5] 42 (0, 0)) (by (with_reducible repeat (first | refine bN ?_ _ | refine bD ?_ | refine bA ?_ _)); exact BK251.out) hb)
              have n3_ := aaM (bB (g := gb253) (o := .cells #[.int .i64 a0_0, .int .i64 a0_1, .int .i64 a0_2, .slice A0_3 l0_3.length c0_3, .slice A0_4 l0_4.length c0_4, .bool a0_5] 42 (0, 0)) (by (with_reducible repeat (first | refine bN ?_ _ | refine bD ?_ | refine bA ?_ _)); exact BK253.out) hb)
              have n4_ := aaM (lP (by repeat (first | (with_reducible first | exact HB.out | apply lA | apply lN | apply lD | refine lS ?_ GE251.out | refine lS ?_ GE253.out) | exact HB.out)) hb)
              clear HO262 BK251 BK253 HB
              have HO262 := n0_
              have HO256 := n1_
              have BK251 := n2_
              have BK253 := n3_
              have HB := n4_
              clear n0_ n1_ n2_ n3_ n4_ hb ho38
              refine hK.out _ _ ⟨(bC BK251.out 0).trans rfl, (bC BK251.out 1).trans rfl, (bC BK251.out 2).trans rfl, (bC BK251.out 3).trans rfl, (bC BK251.out 4).trans rfl, (bC BK251.out 5).trans rfl⟩ (fun hHeld => ?_)
              clear hK K
              refine norm_ (a' := ?_) ?_ ?_
              rotate_left
              ·show Act.put _ (some 24) _ = _
               simp only [Act.put, ssB, ssZ, ssS, i64_w, i32_w]
               rfl
              refine one_ (i := 3) (N := some 27) #[true, true, true, true, true, true, true, false, false, false, false, false] rfl rfl (one_of HT_.out (by kernel_rfl)) (by decide) (fun K hK => ?_)
              refine Kd.R_append_rows_step (Kd.int .i64) (w0 := w) w.heap.size (by rfl) (.tmp 24) (.tmp 26) 38 3 (.int .i64 0) 8 rfl Try.underlying38 info3 rfl (by decide) (by omega) v255 y254 l0_3 _ _ _ (fun _ => True) (fun _ => False) rfl rfl ?aO ?aR (fun _ _ h => h) (fun _ h => h.elim) ?aF ?aB ?aS ?aL ?_
              (case aR => repeat (first | exact (ccB HR0_3.out HB.out) | (with_reducible refine ccA ?_ _) | (with_reducible refine ccN ?_ _) | (with_reducible refine ccD ?_)))
              (case aB => exact (by repeat (first | (with_reducible first | exact HB.out | apply lA | apply lN | apply lD | refine lS ?_ GE251.out | refine lS ?_ GE253.out) | exact HB.out)))
              (case aF => exact (fun _ _ => trivial))
              (case aO => exact (by (with_reducible repeat (first | apply rrA | apply rrN | apply rrD)); exact HO256.out))
              (case aS => exact (lZ (by repeat (first | (with_reducible first | exact HB.out | apply lA | apply lN | apply lD | refine lS ?_ GE251.out | refine lS ?_ GE253.out) | exact HB.out))))
              (case aL => have := LMc11.out; omega)
              intro v258 w39 ho hb hg hat
              rw [← Ny257.out] at ho
              have n0_ := aaM (blk_grown (g := gb251) (by (with_reducible repeat (first | refine bN ?_ _ | refine bD ?_ | refine bA ?_ _)); exact BK251.out) hg (Kd.R_ne HO256.out BK251.out (by decide)))
              have n1_ := aaM (blk_grown (g := gb253) (by (with_reducible repeat (first | refine bN ?_ _ | refine bD ?_ | refine bA ?_ _)); exact BK253.out) hg (Kd.R_ne HO256.out BK253.out (by decide)))
              have n2_ := aaM (Kd.R_over' (by (with_reducible repeat (first | apply rrA | apply rrN | apply rrD)); exact HO262.out) (Kd.R_typed (by (with_reducible repeat (first | apply rrA | apply rrN | apply rrD)); exact HO256.out)) (by decide) hg)
              have n3_ := aaM (hb)
              have n4_ := aaM (ho)
              clear BK251 BK253 HO262 HB HO256
              have BK251 := n0_
              have BK253 := n1_
              have HO262 := n2_
              have HB := n3_
              have HO259 := n4_
              clear n0_ n1_ n2_ n3_ n4_ ho hb hg hat
              refine hK.out _ _ ⟨(bC BK251.out 0).trans rfl, (bC BK251.out 1).trans rfl, (bC BK251.out 2).trans rfl, (bC BK251.out 3).trans rfl, (bC BK251.out 4).trans rfl, (bC BK251.out 5).trans rfl⟩ (fun hHeld => ?_)
              clear hK K
              refine norm_ (a' := ?_) ?_ ?_
              rotate_left
              ·show Act.put _ (some 27) _ = _
               simp only [Act.put, ssB, ssZ, ssS, i64_w, i32_w]
               rfl
              refine pure_ (i := 8) (N := some 32) (v := ?_) (a' := ?_) #[true, true, true, true, true, true, true, false, true, false, false, false] rfl rfl (any_of HT_.out (by kernel_rfl)) (fun _ _ _ h => h) (Or.inl ⟨by rfl, ?_⟩) ?_ ?_
              rotate_left
              ·intro w'
               go_simp
               with_reducible rfl
              rotate_left
              ·simp only [Act.put, ssB, ssZ, ssS, i64_w, i32_w]
               rfl
              exact norm_ (by simp only [putAll, Act.put, ssB, ssZ, ssS]) (hCont (v255, v258, v261) _ ⟨hHeld, (by (with_reducible repeat (first | apply rrA | apply rrN | apply rrD)); exact HO259.out), (by (with_reducible repeat (first | apply rrA | apply rrN | apply rrD)); exact HO262.out), (by (with_reducible repeat (first | refine bN ?_ _ | refine bD ?_ | refine bA ?_ _)); exact BK251.out), (by (with_reducible repeat (first | refine bN ?_ _ | refine bD ?_ | refine bA ?_ _)); exact BK253.out), (by repeat (first | (with_reducible first | exact HB.out | apply lA | apply lN | apply lD | refine lS ?_ GE251.out | refine lS ?_ GE253.out) | exact HB.out))⟩)
            rintro ⟨v255, v258, v261⟩ w40 ⟨hS_, h0_, h1_, h2_, h3_, h4_⟩
            have n0_ : Aside0 (Kd.R (Kd.int .i64) 3 w40 w.heap.size (fun _ => True) v258 y257) := ⟨h0_⟩
            have n1_ : Aside0 (Kd.R Kd.bool 4 w40 w.heap.size (fun _ => True) v261 y260) := ⟨h1_⟩
            have n2_ : Aside0 (w40.heap[gb251]? = some (.cells #[.int .i64 a0_0, .int .i64 a0_1, .int .i64 a0_2, .slice A0_3 l0_3.length c0_3, .slice A0_4 l0_4.length c0_4, .bool a0_5] 42 (0, 0))) := ⟨h2_⟩
            have n3_ : Aside0 (w40.heap[gb253]? = some (.cells #[.int .i64 a0_0, .int .i64 a0_1, .int .i64 a0_2, .slice A0_3 l0_3.length c0_3, .slice A0_4 l0_4.length c0_4, .bool a0_5] 42 (0, 0))) := ⟨h3_⟩
            have n4_ : Aside0 (Below w.heap.size w w40) := ⟨h4_⟩
            clear BK251 BK253 HB h0_ h1_ h2_ h3_ h4_
            have HO259 := n0_
            have HO262 := n1_
            have BK251 := n2_
            have BK253 := n3_
            have HB := n4_
            clear n0_ n1_ n2_ n3_ n4_
            have hHeld : w40.cell? ⟨gb251, 0, none⟩ = some (.int .i64 a0_0) ∧ w40.cell? ⟨gb251, 1, none⟩ = some (.int .i64 a0_1) ∧ w40.cell? ⟨gb251, 2, none⟩ = some (.int .i64 a0_2) ∧ w40.cell? ⟨gb251, 3, none⟩ = some (.slice A0_3 l0_3.length c0_3) ∧ w40.cell? ⟨gb251, 4, none⟩ = some (.slice A0_4 l0_4.length c0_4) ∧ w40.cell? ⟨gb251, 5, none⟩ = some (.bool a0_5) := hS_
            refine norm_ (a' := ?_) ?_ ?_
            rotate_left
            ·simp only [putAll, Act.put, ssB, ssZ, ssS]
             rfl
            refine one_ (i := 7) (N := some 31) #[true, true, true, true, true, true, true, true, true, false, false, false] rfl rfl (one_of HT_.out (by kernel_rfl)) (by decide) (fun K hK => ?_)
            refine Kd.R_append_rows_step Kd.bool (w0 := w) w.heap.size (by rfl) (.tmp 28) (.tmp 30) 40 4 (.bool false) 1 rfl Try.underlying40 info4 rfl (by decide) (by omega) v261 y260 l0_4 _ _ _ (fun _ => True) (fun _ => False) rfl rfl ?aO ?aR (fun _ _ h => h) (fun _ h => h.elim) ?aF ?aB ?aS ?aL ?_
            (case aR => repeat (first | exact (ccB HR0_4.out HB.out) | (with_reducible refine ccA ?_ _) | (with_reducible refine ccN ?_ _) | (with_reducible refine ccD ?_)))
            (case aB => exact (by repeat (first | (with_reducible first | exact HB.out | apply lA | apply lN | apply lD | refine lS ?_ GE251.out | refine lS ?_ GE253.out) | exact HB.out)))
            (case aF => exact (fun _ _ => trivial))
            (case aO => exact (by (with_reducible repeat (first | apply rrA | apply rrN | apply rrD)); exact HO262.out))
            (case aS => exact (lZ (by repeat (first | (with_reducible first | exact HB.out | apply lA | apply lN | apply lD | refine lS ?_ GE251.out | refine lS ?_ GE253.out) | exact HB.out))))
            (case aL => have := LMc12.out; omega)
            intro v264 w41 ho hb hg hat
            rw [← Ny263.out] at ho
            have n0_ := aaM (blk_grown (g := gb251) (by (with_reducible repeat (first | refine bN ?_ _ | refine bD ?_ | refine bA ?_ _)); exact BK251.out) hg (Kd.R_ne HO262.out BK251.out (by decide)))
            have n1_ := aaM (blk_grown (g := gb253) (by (with_reducible repeat (first | refine bN ?_ _ | refine bD ?_ | refine bA ?_ _)); exact BK253.out) hg (Kd.R_ne HO262.out BK253.out (by decide)))
            have n2_ := aaM (Kd.R_over' (by (with_reducible repeat (first | apply rrA | apply rrN | apply rrD)); exact HO259.out) (Kd.R_typed (by (with_reducible repeat (first | apply rrA | apply rrN | apply rrD)); exact HO262.out)) (by decide) hg)
            have n3_ := aaM (hb)
            have n4_ := aaM (ho)
            clear BK251 BK253 HO259 HB HO262
            have BK251 := n0_
            have BK253 := n1_
            have HO259 := n2_
            have HB := n3_
            have HO265 := n4_
            clear n0_ n1_ n2_ n3_ n4_ ho hb hg hat
            obtain ⟨Ao42, co42, eo42⟩ := Kd.R_slice HO259.out
            (first | subst eo42 | (injection eo42 with f1_ f2_ f3_; have f4_ := f1_.symm; have f5_ := f3_.symm; clear f1_ f2_ f3_; subst f4_; subst f5_))
            obtain ⟨Ao44, co44, eo44⟩ := Kd.R_slice HO265.out
            (first | subst eo44 | (injection eo44 with f1_ f2_ f3_; have f4_ := f1_.symm; have f5_ := f3_.symm; clear f1_ f2_ f3_; subst f4_; subst f5_))
            refine hK.out _ _ ⟨(bC BK251.out 0).trans rfl, (bC BK251.out 1).trans rfl, (bC BK251.out 2).trans rfl, (bC BK251.out 3).trans rfl, (bC BK251.out 4).trans rfl, (bC BK251.out 5).trans rfl⟩ (fun hHeld => ?_)
            clear hK K
            refine norm_ (a' := ?_) ?_ ?_
            rotate_left
            ·show Act.put _ (some 31) _ = _
             simp only [Act.put, ssB, ssZ, ssS, i64_w, i32_w]
             rfl
            refine one_ (i := 9) (N := none) #[true, true, true, true, true, true, true, true, true, true, false, false] rfl rfl (one_of HT_.out (by kernel_rfl)) (by decide) (fun K hK => ?_)
            have hs43 : w41.cell? ⟨gb253, 3, none⟩ = some (.slice A0_3 l0_3.length c0_3) := (bC BK253.out 3).trans rfl
            have hfs43 := bF BK253.out 3
            have hns43_0 := NB251_253.out
            have hms43_0 := NB253_251.out
            refine skip_ (w1 := ?_) (by rfl) rfl ?_ ?_
            rotate_left
            ·go_simp
             rfl
            refine hK.out _ _ ⟨((cell_far (p := ⟨gb253, _, none⟩) NB251_253.out _).trans (hHeld.1)), ((cell_far (p := ⟨gb253, _, none⟩) NB251_253.out _).trans (hHeld.2.1)), ((cell_far (p := ⟨gb253, _, none⟩) NB251_253.out _).trans (hHeld.2.2.1)), ((cell_far (p := ⟨gb253, _, none⟩) NB251_253.out _).trans (hHeld.2.2.2.1)), ((cell_far (p := ⟨gb253, _, none⟩) NB251_253.out _).trans (hHeld.2.2.2.2.1)), ((cell_far (p := ⟨gb253, _, none⟩) NB251_253.out _).trans (hHeld.2.2.2.2.2))⟩ (fun hHeld => ?_)
            clear hK K
            refine pure_ (i := 10) (N := some 33) (v := ?_) (a' := ?_) #[true, true, true, true, true, true, true, true, true, true, true, false] rfl rfl (any_of HT_.out (by kernel_rfl)) (fun _ _ _ h => h) (Or.inl ⟨by rfl, ?_⟩) ?_ ?_
            rotate_left
            ·intro w'
             go_simp
             with_reducible rfl
            rotate_left
            ·simp only [Act.put, ssB, ssZ, ssS, i64_w, i32_w]
             rfl
            refine one_ (i := 11) (N := none) #[true, true, true, true, true, true, true, true, true, true, true, true] rfl rfl (one_of HT_.out (by kernel_rfl)) (by decide) (fun K hK => ?_)
            have hs45 : w41.cell? ⟨gb253, 4, none⟩ = some (.slice A0_4 l0_4.length c0_4) := (bC BK253.out 4).trans rfl
            have hfs45 := bF BK253.out 4
            have hns45_0 := NB251_253.out
            have hms45_0 := NB253_251.out
            refine skip_ (w1 := ?_) (by rfl) rfl ?_ ?_
            rotate_left
            ·go_simp
             rfl
            refine hK.out _ _ ⟨((cell_far (p := ⟨gb253, _, none⟩) NB251_253.out _).trans (hHeld.1)), ((cell_far (p := ⟨gb253, _, none⟩) NB251_253.out _).trans (hHeld.2.1)), ((cell_far (p := ⟨gb253, _, none⟩) NB251_253.out _).trans (hHeld.2.2.1)), ((cell_far (p := ⟨gb253, _, none⟩) NB251_253.out _).trans (hHeld.2.2.2.1)), ((cell_far (p := ⟨gb253, _, none⟩) NB251_253.out _).trans (hHeld.2.2.2.2.1)), ((cell_far (p := ⟨gb253, _, none⟩) NB251_253.out _).trans (hHeld.2.2.2.2.2))⟩ (fun hHeld => ?_)
            clear hK K
            refine done_ (done_of HT_.out (by kernel_rfl)) ?_
            have hcz46_0 : w41.cell? ⟨gb251, 0, none⟩ = some (.int .i64 a0_0) := (bC BK251.out 0).trans rfl
            have hcz46_1 : w41.cell? ⟨gb251, 1, none⟩ = some (.int .i64 a0_1) := (bC BK251.out 1).trans rfl
            have hcz46_2 : w41.cell? ⟨gb251, 2, none⟩ = some (.int .i64 a0_2) := (bC BK251.out 2).trans rfl
            have hcz46_3 : w41.cell? ⟨gb251, 3, none⟩ = some (.slice A0_3 l0_3.length c0_3) := (bC BK251.out 3).trans rfl
            have hcz46_4 : w41.cell? ⟨gb251, 4, none⟩ = some (.slice A0_4 l0_4.length c0_4) := (bC BK251.out 4).trans rfl
            have hcz46_5 : w41.cell? ⟨gb251, 5, none⟩ = some (.bool a0_5) := (bC BK251.out 5).trans rfl
            have hfz46_0 := bF BK251.out 0
            have hfz46_1 := bF BK251.out 1
            have hfz46_2 := bF BK251.out 2
            have hfz46_3 := bF BK251.out 3
            have hfz46_4 := bF BK251.out 4
            have hfz46_5 := bF BK251.out 5
            try go_wp2_with (first | ((with_reducible refine gate_callee (f := 36) rfl ?_); refine goesL_ (some 37) rfl rfl Try.func36 (by kernel_rfl) rfl #[.agg #[.int .i64 a0_0, .int .i64 a0_1, .int .i64 a0_2, .slice A0_3 l0_3.length c0_3, .slice A0_4 l0_4.length c0_4, .bool a0_5], .int .i64 a1] rfl (by (try simp only [List.map_toArray, List.map_cons, List.map_nil]); first | done | rfl | (simp only [List.length_drop, List.length_take]; rfl)) ?_; (with_reducible refine (sched_Step.calls kj2 a0_0 a0_1 a0_2 _ _ l0_3 _ _ l0_4 a0_5 a1 t266 t267 t268 t269 t272 t275 t276 t277 t278 t279 _ ?side1 ?side2 ?side3 ?side4 A13.out).mono ?_); (case side1 => exact ccB HR0_3.out (by repeat (first | (with_reducible first | exact HB.out | apply lA | apply lN | apply lD | refine lS ?_ GE251.out | refine lS ?_ GE253.out) | exact HB.out))); (case side2 => exact HC0_3.out); (case side3 => exact ccB HR0_4.out (by repeat (first | (with_reducible first | exact HB.out | apply lA | apply lN | apply lD | refine lS ?_ GE251.out | refine lS ?_ GE253.out) | exact HB.out))); (case side4 => exact HC0_4.out); rintro e w47 ⟨v270, v273, rfl, ho0, ho1, hb⟩; refine ⟨_, rfl, ?_⟩; have n0_ := aaM (Kd.R_elder' (by (with_reducible repeat (first | apply rrA | apply rrN | apply rrD)); exact (Kd.R_mono (rrF (p := ⟨gb253, 4, none⟩) (rrF (p := ⟨gb253, 3, none⟩) (Kd.R_types HO259.out BK253.out (by decide)) (fun _ hk => hk.2) (.slice Ao42 y257.length co42)) (fun _ hk => hk.2) (.slice Ao44 y263.length co44)) (fun _ h_ => h_.1))) (Kd.R_base ho0) hb); have n1_ := aaM (Kd.R_elder' (by (with_reducible repeat (first | apply rrA | apply rrN | apply rrD)); exact (Kd.R_mono (rrF (p := ⟨gb253, 4, none⟩) (rrF (p := ⟨gb253, 3, none⟩) (Kd.R_types HO265.out BK253.out (by decide)) (fun _ hk => hk.2) (.slice Ao42 y257.length co42)) (fun _ hk => hk.2) (.slice Ao44 y263.length co44)) (fun _ h_ => h_.1))) (Kd.R_base ho1) hb); have n2_ := aaM (Kd.R_lower (Kd.R_new' ho0 (Kd.R_lt (by (with_reducible repeat (first | apply rrA | apply rrN | apply rrD)); exact (Kd.R_mono (rrF (p := ⟨gb253, 4, none⟩) (rrF (p := ⟨gb253, 3, none⟩) (Kd.R_types HO259.out BK253.out (by decide)) (fun _ hk => hk.2) (.slice Ao42 y257.length co42)) (fun _ hk => hk.2) (.slice Ao44 y263.length co44)) (fun _ h_ => h_.1))))) (lZ (by repeat (first | (with_reducible first | exact HB.out | apply lA | apply lN | apply lD | refine lS ?_ GE251.out | refine lS ?_ GE253.out) | exact HB.out)))); have n3_ := aaM (Kd.R_lower (Kd.R_new' ho1 (Kd.R_lt (by (with_reducible repeat (first | apply rrA | apply rrN | apply rrD)); exact (Kd.R_mono (rrF (p := ⟨gb253, 4, none⟩) (rrF (p := ⟨gb253, 3, none⟩) (Kd.R_types HO265.out BK253.out (by decide)) (fun _ hk => hk.2) (.slice Ao42 y257.length co42)) (fun _ hk => hk.2) (.slice Ao44 y263.length co44)) (fun _ h_ => h_.1))))) (lZ (by repeat (first | (with_reducible first | exact HB.out | apply lA | apply lN | apply lD | refine lS ?_ GE251.out | refine lS ?_ GE253.out) | exact HB.out)))); have n4_ := aaM (bB (g := gb251) (o := .cells #[.int .i64 a0_0, .int .i64 a0_1, .int .i64 a0_2, .slice A0_3 l0_3.length c0_3, .slice A0_4 l0_4.length c0_4, .bool a0_5] 42 (0, 0)) (by (with_reducible repeat (first | refine bN ?_ _ | refine bD ?_ | refine bA ?_ _)); refine blk_far ?_ NB251_253.out _; (with_reducible repeat (first | refine bN ?_ _ | refine bD ?_ | refine bA ?_ _)); refine blk_far ?_ NB251_253.out _; (with_reducible repeat (first | refine bN ?_ _ | refine bD ?_ | refine bA ?_ _)); exact BK251.out) hb); have n5_ := aaM (bB (g := gb253) (o := .cells #[.int .i64 a0_0, .int .i64 a0_1, .int .i64 a0_2, .slice Ao42 y257.length co42, .slice Ao44 y263.length co44, .bool a0_5] 42 (0, 0)) (by (with_reducible repeat (first | refine bN ?_ _ | refine bD ?_ | refine bA ?_ _)); refine blk_put (cs := #[.int .i64 a0_0, .int .i64 a0_1, .int .i64 a0_2, .slice Ao42 y257.length co42, .slice A0_4 l0_4.length c0_4, .bool a0_5]) ?_ 4 _ rfl; (with_reducible repeat (first | refine bN ?_ _ | refine bD ?_ | refine bA ?_ _)); refine blk_put (cs := #[.int .i64 a0_0, .int .i64 a0_1, .int .i64 a0_2, .slice A0_3 l0_3.length c0_3, .slice A0_4 l0_4.length c0_4, .bool a0_5]) ?_ 3 _ rfl; (with_reducible repeat (first | refine bN ?_ _ | refine bD ?_ | refine bA ?_ _)); exact BK253.out) hb); have n6_ := aaM (lP (by repeat (first | (with_reducible first | exact HB.out | apply lA | apply lN | apply lD | refine lS ?_ GE251.out | refine lS ?_ GE253.out) | exact HB.out)) hb); clear HO259; clear HO265; clear BK251; clear BK253; clear HB; have HO259 := n0_; have HO265 := n1_; have HO271 := n2_; have HO274 := n3_; have BK251 := n4_; have BK253 := n5_; have HB := n6_; clear n0_ n1_ n2_ n3_ n4_ n5_ n6_; (try clear hb); (try clear hb2); (try clear hk); (try clear hi); (try clear ho0); (try clear ho1)) | ((with_reducible refine gate_dst (N := 6) rfl ?_); (try (refine gate_guard (by rfl) ?_; dsimp only)); refine box_event ?hg (N := 6) ?hd (cs := #[.int .i64 0, .int .i64 0, .int .i64 0, .slice none 0 0, .slice none 0 0, .bool false]) (t := 42) ?hr ?_; (case hd => rfl); (case hg => rfl); (case hr => first | (go_simp; done) | (go_simp; rfl)); intro gb280 hg w48 hbox hb; have n0_ := aaM (rrB (by (with_reducible repeat (first | apply rrA | apply rrN | apply rrD)); exact HO259.out) hb); have n1_ := aaM (rrB (by (with_reducible repeat (first | apply rrA | apply rrN | apply rrD)); exact HO265.out) hb); have n2_ := aaM (rrB (by (with_reducible repeat (first | apply rrA | apply rrN | apply rrD)); exact HO271.out) hb); have n3_ := aaM (rrB (by (with_reducible repeat (first | apply rrA | apply rrN | apply rrD)); exact HO274.out) hb); have n4_ := aaM (bB (g := gb251) (o := .cells #[.int .i64 a0_0, .int .i64 a0_1, .int .i64 a0_2, .slice A0_3 l0_3.length c0_3, .slice A0_4 l0_4.length c0_4, .bool a0_5] 42 (0, 0)) (by (with_reducible repeat (first | refine bN ?_ _ | refine bD ?_ | refine bA ?_ _)); exact BK251.out) hb); have n5_ := aaM (bB (g := gb253) (o := .cells #[.int .i64 a0_0, .int .i64 a0_1, .int .i64 a0_2, .slice Ao42 y257.length co42, .slice Ao44 y263.length co44, .bool a0_5] 42 (0, 0)) (by (with_reducible repeat (first | refine bN ?_ _ | refine bD ?_ | refine bA ?_ _)); exact BK253.out) hb); have n6_ := aaM (lP (by repeat (first | (with_reducible first | exact HB.out | apply lA | apply lN | apply lD | refine lS ?_ GE251.out | refine lS ?_ GE253.out) | exact HB.out)) hb); have n7_ := aaM (hbox); have n8_ := aaM ((by rw [hg]; exact (lZ (by repeat (first | (with_reducible first | exact HB.out | apply lA | apply lN | apply lD | refine lS ?_ GE251.out | refine lS ?_ GE253.out) | exact HB.out))) : w.heap.size ≤ gb280)); have n9_ := aaM ((by rw [hg]; exact (lZ (by repeat (first | (with_reducible first | exact HB.out | apply lA | apply lN | apply lD | refine lS ?_ GE251.out | refine lS ?_ GE253.out) | exact HB.out))) : w.heap.size ≤ gb280)); have n10_ := aaM ((by rw [hg]; exact Nat.ne_of_lt (bL (g := gb251) (by (with_reducible repeat (first | refine bN ?_ _ | refine bD ?_ | refine bA ?_ _)); exact BK251.out)) : gb251 ≠ gb280)); have n11_ := aaM ((by rw [hg]; exact Nat.ne_of_gt (bL (g := gb251) (by (with_reducible repeat (first | refine bN ?_ _ | refine bD ?_ | refine bA ?_ _)); exact BK251.out)) : gb280 ≠ gb251)); have n12_ := aaM ((by rw [hg]; exact Nat.ne_of_lt (bL (g := gb253) (by (with_reducible repeat (first | refine bN ?_ _ | refine bD ?_ | refine bA ?_ _)); exact BK253.out)) : gb253 ≠ gb280)); have n13_ := aaM ((by rw [hg]; exact Nat.ne_of_gt (bL (g := gb253) (by (with_reducible repeat (first | refine bN ?_ _ | refine bD ?_ | refine bA ?_ _)); exact BK253.out)) : gb280 ≠ gb253)); clear HO259; clear HO265; clear HO271; clear HO274; clear BK251; clear BK253; clear HB; have HO259 := n0_; have HO265 := n1_; have HO271 := n2_; have HO274 := n3_; have BK251 := n4_; have BK253 := n5_; have HB := n6_; have BK280 := n7_; have GW280 := n8_; have GE280 := n9_; have NB251_280 := n10_; have NB280_251 := n11_; have NB253_280 := n12_; have NB280_253 := n13_; clear n0_ n1_ n2_ n3_ n4_ n5_ n6_ n7_ n8_ n9_ n10_ n11_ n12_ n13_; clear hb hbox hg) | ((with_reducible refine gate_dst (N := 7) rfl ?_); (try (refine gate_guard (by rfl) ?_; dsimp only)); refine box_event ?hg (N := 7) ?hd (cs := #[.int .i64 0, .int .i64 0, .int .i64 0]) (t := 52) ?hr ?_; (case hd => rfl); (case hg => rfl); (case hr => first | (go_simp; done) | (go_simp; rfl)); intro gb281 hg w49 hbox hb; have n0_ := aaM (rrB (by (with_reducible repeat (first | apply rrA | apply rrN | apply rrD)); exact HO259.out) hb); have n1_ := aaM (rrB (by (with_reducible repeat (first | apply rrA | apply rrN | apply rrD)); exact HO265.out) hb); have n2_ := aaM (rrB (by (with_reducible repeat (first | apply rrA | apply rrN | apply rrD)); exact HO271.out) hb); have n3_ := aaM (rrB (by (with_reducible repeat (first | apply rrA | apply rrN | apply rrD)); exact HO274.out) hb); have n4_ := aaM (bB (g := gb251) (o := .cells #[.int .i64 a0_0, .int .i64 a0_1, .int .i64 a0_2, .slice A0_3 l0_3.length c0_3, .slice A0_4 l0_4.length c0_4, .bool a0_5] 42 (0, 0)) (by (with_reducible repeat (first | refine bN ?_ _ | refine bD ?_ | refine bA ?_ _)); exact BK251.out) hb); have n5_ := aaM (bB (g := gb253) (o := .cells #[.int .i64 a0_0, .int .i64 a0_1, .int .i64 a0_2, .slice Ao42 y257.length co42, .slice Ao44 y263.length co44, .bool a0_5] 42 (0, 0)) (by (with_reducible repeat (first | refine bN ?_ _ | refine bD ?_ | refine bA ?_ _)); exact BK253.out) hb); have n6_ := aaM (bB (g := gb280) (o := .cells #[.int .i64 0, .int .i64 0, .int .i64 0, .slice none 0 0, .slice none 0 0, .bool false] 42 (0, 0)) (by (with_reducible repeat (first | refine bN ?_ _ | refine bD ?_ | refine bA ?_ _)); exact BK280.out) hb); have n7_ := aaM (lP (by repeat (first | (with_reducible first | exact HB.out | apply lA | apply lN | apply lD | refine lS ?_ GE251.out | refine lS ?_ GE253.out | refine lS ?_ GE280.out) | exact HB.out)) hb); have n8_ := aaM (hbox); have n9_ := aaM ((by rw [hg]; exact (lZ (by repeat (first | (with_reducible first | exact HB.out | apply lA | apply lN | apply lD | refine lS ?_ GE251.out | refine lS ?_ GE253.out | refine lS ?_ GE280.out) | exact HB.out))) : w.heap.size ≤ gb281)); have n10_ := aaM ((by rw [hg]; exact (lZ (by repeat (first | (with_reducible first | exact HB.out | apply lA | apply lN | apply lD | refine lS ?_ GE251.out | refine lS ?_ GE253.out | refine lS ?_ GE280.out) | exact HB.out))) : w.heap.size ≤ gb281)); have n11_ := aaM ((by rw [hg]; exact Nat.ne_of_lt (bL (g := gb251) (by (with_reducible repeat (first | refine bN ?_ _ | refine bD ?_ | refine bA ?_ _)); exact BK251.out)) : gb251 ≠ gb281)); have n12_ := aaM ((by rw [hg]; exact Nat.ne_of_gt (bL (g := gb251) (by (with_reducible repeat (first | refine bN ?_ _ | refine bD ?_ | refine bA ?_ _)); exact BK251.out)) : gb281 ≠ gb251)); have n13_ := aaM ((by rw [hg]; exact Nat.ne_of_lt (bL (g := gb253) (by (with_reducible repeat (first | refine bN ?_ _ | refine bD ?_ | refine bA ?_ _)); exact BK253.out)) : gb253 ≠ gb281)); have n14_ := aaM ((by rw [hg]; exact Nat.ne_of_gt (bL (g := gb253) (by (with_reducible repeat (first | refine bN ?_ _ | refine bD ?_ | refine bA ?_ _)); exact BK253.out)) : gb281 ≠ gb253)); have n15_ := aaM ((by rw [hg]; exact Nat.ne_of_lt (bL (g := gb280) (by (with_reducible repeat (first | refine bN ?_ _ | refine bD ?_ | refine bA ?_ _)); exact BK280.out)) : gb280 ≠ gb281)); have n16_ := aaM ((by rw [hg]; exact Nat.ne_of_gt (bL (g := gb280) (by (with_reducible repeat (first | refine bN ?_ _ | refine bD ?_ | refine bA ?_ _)); exact BK280.out)) : gb281 ≠ gb280)); clear HO259; clear HO265; clear HO271; clear HO274; clear BK251; clear BK253; clear BK280; clear HB; have HO259 := n0_; have HO265 := n1_; have HO271 := n2_; have HO274 := n3_; have BK251 := n4_; have BK253 := n5_; have BK280 := n6_; have HB := n7_; have BK281 := n8_; have GW281 := n9_; have GE281 := n10_; have NB251_281 := n11_; have NB281_251 := n12_; have NB253_281 := n13_; have NB281_253 := n14_; have NB280_281 := n15_; have NB281_280 := n16_; clear n0_ n1_ n2_ n3_ n4_ n5_ n6_ n7_ n8_ n9_ n10_ n11_ n12_ n13_ n14_ n15_ n16_; clear hb hbox hg; have hnb50 := NB280_251.out; have hnc50 := NB251_280.out; have hnb51 := NB280_253.out; have hnc51 := NB253_280.out; have hnb52 := NB280_281.out; have hnc52 := NB281_280.out; have hcz53_0 : w49.cell? ⟨gb280, 0, none⟩ = some (.int .i64 0) := (bC BK280.out 0).trans rfl; have hcz53_1 : w49.cell? ⟨gb280, 1, none⟩ = some (.int .i64 0) := (bC BK280.out 1).trans rfl; have hcz53_2 : w49.cell? ⟨gb280, 2, none⟩ = some (.int .i64 0) := (bC BK280.out 2).trans rfl; have hcz53_3 : w49.cell? ⟨gb280, 3, none⟩ = some (.slice none 0 0) := (bC BK280.out 3).trans rfl; have hcz53_4 : w49.cell? ⟨gb280, 4, none⟩ = some (.slice none 0 0) := (bC BK280.out 4).trans rfl; have hcz53_5 : w49.cell? ⟨gb280, 5, none⟩ = some (.bool false) := (bC BK280.out 5).trans rfl; have hfz53_0 := bF BK280.out 0; have hfz53_1 := bF BK280.out 1; have hfz53_2 := bF BK280.out 2; have hfz53_3 := bF BK280.out 3; have hfz53_4 := bF BK280.out 4; have hfz53_5 := bF BK280.out 5; obtain ⟨Ao54, co54, eo54⟩ := Kd.R_slice HO271.out; subst eo54; obtain ⟨Ao55, co55, eo55⟩ := Kd.R_slice HO274.out; subst eo55; have hnb56 := NB281_251.out; have hnc56 := NB251_281.out; have hnb57 := NB281_253.out; have hnc57 := NB253_281.out; have hcz58_0 : w49.cell? ⟨gb281, 0, none⟩ = some (.int .i64 0) := (bC BK281.out 0).trans rfl; have hcz58_1 : w49.cell? ⟨gb281, 1, none⟩ = some (.int .i64 0) := (bC BK281.out 1).trans rfl; have hcz58_2 : w49.cell? ⟨gb281, 2, none⟩ = some (.int .i64 0) := (bC BK281.out 2).trans rfl; have hfz58_0 := bF BK281.out 0; have hfz58_1 := bF BK281.out 1; have hfz58_2 := bF BK281.out 2; have hcz59_0 : w49.cell? ⟨gb253, 0, none⟩ = some (.int .i64 a0_0) := (bC BK253.out 0).trans rfl; have hcz59_1 : w49.cell? ⟨gb253, 1, none⟩ = some (.int .i64 a0_1) := (bC BK253.out 1).trans rfl; have hcz59_2 : w49.cell? ⟨gb253, 2, none⟩ = some (.int .i64 a0_2) := (bC BK253.out 2).trans rfl; have hcz59_3 : w49.cell? ⟨gb253, 3, none⟩ = some (.slice Ao42 y257.length co42) := (bC BK253.out 3).trans rfl; have hcz59_4 : w49.cell? ⟨gb253, 4, none⟩ = some (.slice Ao44 y263.length co44) := (bC BK253.out 4).trans rfl; have hcz59_5 : w49.cell? ⟨gb253, 5, none⟩ = some (.bool a0_5) := (bC BK253.out 5).trans rfl; have hfz59_0 := bF BK253.out 0; have hfz59_1 := bF BK253.out 1; have hfz59_2 := bF BK253.out 2; have hfz59_3 := bF BK253.out 3; have hfz59_4 := bF BK253.out 4; have hfz59_5 := bF BK253.out 5) | ((with_reducible refine gate_callee (f := 37) rfl ?_); refine goesL_ (some 44) rfl rfl Try.func37 (by kernel_rfl) rfl #[.agg #[.int .i64 a0_0, .int .i64 a0_1, .int .i64 a0_2, .slice Ao42 y257.length co42, .slice Ao44 y263.length co44, .bool a0_5], .int .i64 a1] rfl (by (try simp only [List.map_toArray, List.map_cons, List.map_nil]); first | done | rfl | (simp only [List.length_drop, List.length_take]; rfl)) ?_; (with_reducible refine (hornbeamref21_Step.calls kj2 a0_0 a0_1 a0_2 _ _ y257 _ _ y263 a0_5 a1 t282 t283 t284 t285 t288 t291 t292 t293 t294 t295 _ ?side1 ?side2 ?side3 ?side4 A14.out).mono ?_); (case side1 => refine (Kd.R_reads' (e := 3) (base := w.heap.size) (ok := fun k_ => (True ∧ some k_ ≠ (.slice Ao54 t269.length co54 : Value).ownBlock)) (n := y257.length) (c := co42) ?_).2.2; exact (by (with_reducible repeat (first | apply rrA | apply rrN | apply rrD)); exact (Kd.R_mono (Kd.R_mono (rrF (p := ⟨gb281, 2, none⟩) (rrF (p := ⟨gb281, 1, none⟩) (rrF (p := ⟨gb281, 0, none⟩) (rrF (p := ⟨gb280, 5, none⟩) (rrF (p := ⟨gb280, 4, none⟩) (rrF (p := ⟨gb280, 3, none⟩) (rrF (p := ⟨gb280, 2, none⟩) (rrF (p := ⟨gb280, 1, none⟩) (rrF (p := ⟨gb280, 0, none⟩) (Kd.R_types (Kd.R_types HO259.out BK280.out (by decide)) BK281.out (by decide)) (fun _ hk => hk.1.2) (.int .i64 t266)) (fun _ hk => hk.1.2) (.int .i64 t267)) (fun _ hk => hk.1.2) (.int .i64 t268)) (fun _ hk => hk.1.2) (.slice Ao54 t269.length co54)) (fun _ hk => hk.1.2) (.slice Ao55 t272.length co55)) (fun _ hk => hk.1.2) (.bool t275)) (fun _ hk => hk.2) (.int .i64 t276)) (fun _ hk => hk.2) (.int .i64 t277)) (fun _ hk => hk.2) (.int .i64 t278)) (fun _ h_ => h_.1)) (fun _ h_ => h_.1)))); (case side2 => exact (Kd.R_reads' HO259.out).2.1); (case side3 => refine (Kd.R_reads' (e := 4) (base := w.heap.size) (ok := fun k_ => (True ∧ some k_ ≠ (.slice Ao55 t272.length co55 : Value).ownBlock)) (n := y263.length) (c := co44) ?_).2.2; exact (by (with_reducible repeat (first | apply rrA | apply rrN | apply rrD)); exact (Kd.R_mono (Kd.R_mono (rrF (p := ⟨gb281, 2, none⟩) (rrF (p := ⟨gb281, 1, none⟩) (rrF (p := ⟨gb281, 0, none⟩) (rrF (p := ⟨gb280, 5, none⟩) (rrF (p := ⟨gb280, 4, none⟩) (rrF (p := ⟨gb280, 3, none⟩) (rrF (p := ⟨gb280, 2, none⟩) (rrF (p := ⟨gb280, 1, none⟩) (rrF (p := ⟨gb280, 0, none⟩) (Kd.R_types (Kd.R_types HO265.out BK280.out (by decide)) BK281.out (by decide)) (fun _ hk => hk.1.2) (.int .i64 t266)) (fun _ hk => hk.1.2) (.int .i64 t267)) (fun _ hk => hk.1.2) (.int .i64 t268)) (fun _ hk => hk.1.2) (.slice Ao54 t269.length co54)) (fun _ hk => hk.1.2) (.slice Ao55 t272.length co55)) (fun _ hk => hk.1.2) (.bool t275)) (fun _ hk => hk.2) (.int .i64 t276)) (fun _ hk => hk.2) (.int .i64 t277)) (fun _ hk => hk.2) (.int .i64 t278)) (fun _ h_ => h_.1)) (fun _ h_ => h_.1)))); (case side4 => exact (Kd.R_reads' HO265.out).2.1); rintro e w60 ⟨v286, v289, rfl, ho0, ho1, hb⟩; refine ⟨_, rfl, ?_⟩; have n0_ := aaM (Kd.R_elder' (by (with_reducible repeat (first | apply rrA | apply rrN | apply rrD)); exact (Kd.R_mono (Kd.R_mono (rrF (p := ⟨gb281, 2, none⟩) (rrF (p := ⟨gb281, 1, none⟩) (rrF (p := ⟨gb281, 0, none⟩) (rrF (p := ⟨gb280, 5, none⟩) (rrF (p := ⟨gb280, 4, none⟩) (rrF (p := ⟨gb280, 3, none⟩) (rrF (p := ⟨gb280, 2, none⟩) (rrF (p := ⟨gb280, 1, none⟩) (rrF (p := ⟨gb280, 0, none⟩) (Kd.R_types (Kd.R_types HO259.out BK280.out (by decide)) BK281.out (by decide)) (fun _ hk => hk.1.2) (.int .i64 t266)) (fun _ hk => hk.1.2) (.int .i64 t267)) (fun _ hk => hk.1.2) (.int .i64 t268)) (fun _ hk => hk.1.2) (.slice Ao54 t269.length co54)) (fun _ hk => hk.1.2) (.slice Ao55 t272.length co55)) (fun _ hk => hk.1.2) (.bool t275)) (fun _ hk => hk.2) (.int .i64 t276)) (fun _ hk => hk.2) (.int .i64 t277)) (fun _ hk => hk.2) (.int .i64 t278)) (fun _ h_ => h_.1)) (fun _ h_ => h_.1))) (Kd.R_base ho0) hb); have n1_ := aaM (Kd.R_elder' (by (with_reducible repeat (first | apply rrA | apply rrN | apply rrD)); exact (Kd.R_mono (Kd.R_mono (rrF (p := ⟨gb281, 2, none⟩) (rrF (p := ⟨gb281, 1, none⟩) (rrF (p := ⟨gb281, 0, none⟩) (rrF (p := ⟨gb280, 5, none⟩) (rrF (p := ⟨gb280, 4, none⟩) (rrF (p := ⟨gb280, 3, none⟩) (rrF (p := ⟨gb280, 2, none⟩) (rrF (p := ⟨gb280, 1, none⟩) (rrF (p := ⟨gb280, 0, none⟩) (Kd.R_types (Kd.R_types HO265.out BK280.out (by decide)) BK281.out (by decide)) (fun _ hk => hk.1.2) (.int .i64 t266)) (fun _ hk => hk.1.2) (.int .i64 t267)) (fun _ hk => hk.1.2) (.int .i64 t268)) (fun _ hk => hk.1.2) (.slice Ao54 t269.length co54)) (fun _ hk => hk.1.2) (.slice Ao55 t272.length co55)) (fun _ hk => hk.1.2) (.bool t275)) (fun _ hk => hk.2) (.int .i64 t276)) (fun _ hk => hk.2) (.int .i64 t277)) (fun _ hk => hk.2) (.int .i64 t278)) (fun _ h_ => h_.1)) (fun _ h_ => h_.1))) (Kd.R_base ho1) hb); have n2_ := aaM (Kd.R_elder' (by (with_reducible repeat (first | apply rrA | apply rrN | apply rrD)); exact (Kd.R_mono (Kd.R_mono (rrF (p := ⟨gb281, 2, none⟩) (rrF (p := ⟨gb281, 1, none⟩) (rrF (p := ⟨gb281, 0, none⟩) (rrF (p := ⟨gb280, 5, none⟩) (rrF (p := ⟨gb280, 4, none⟩) (rrF (p := ⟨gb280, 3, none⟩) (rrF (p := ⟨gb280, 2, none⟩) (rrF (p := ⟨gb280, 1, none⟩) (rrF (p := ⟨gb280, 0, none⟩) (Kd.R_types (Kd.R_types HO271.out BK280.out (by decide)) BK281.out (by decide)) (fun _ hk => hk.1.2) (.int .i64 t266)) (fun _ hk => hk.1.2) (.int .i64 t267)) (fun _ hk => hk.1.2) (.int .i64 t268)) (fun _ hk => hk.1.2) (.slice Ao54 t269.length co54)) (fun _ hk => hk.1.2) (.slice Ao55 t272.length co55)) (fun _ hk => hk.1.2) (.bool t275)) (fun _ hk => hk.2) (.int .i64 t276)) (fun _ hk => hk.2) (.int .i64 t277)) (fun _ hk => hk.2) (.int .i64 t278)) (fun _ h_ => h_.1)) (fun _ h_ => h_.1))) (Kd.R_base ho0) hb); have n3_ := aaM (Kd.R_elder' (by (with_reducible repeat (first | apply rrA | apply rrN | apply rrD)); exact (Kd.R_mono (Kd.R_mono (rrF (p := ⟨gb281, 2, none⟩) (rrF (p := ⟨gb281, 1, none⟩) (rrF (p := ⟨gb281, 0, none⟩) (rrF (p := ⟨gb280, 5, none⟩) (rrF (p := ⟨gb280, 4, none⟩) (rrF (p := ⟨gb280, 3, none⟩) (rrF (p := ⟨gb280, 2, none⟩) (rrF (p := ⟨gb280, 1, none⟩) (rrF (p := ⟨gb280, 0, none⟩) (Kd.R_types (Kd.R_types HO274.out BK280.out (by decide)) BK281.out (by decide)) (fun _ hk => hk.1.2) (.int .i64 t266)) (fun _ hk => hk.1.2) (.int .i64 t267)) (fun _ hk => hk.1.2) (.int .i64 t268)) (fun _ hk => hk.1.2) (.slice Ao54 t269.length co54)) (fun _ hk => hk.1.2) (.slice Ao55 t272.length co55)) (fun _ hk => hk.1.2) (.bool t275)) (fun _ hk => hk.2) (.int .i64 t276)) (fun _ hk => hk.2) (.int .i64 t277)) (fun _ hk => hk.2) (.int .i64 t278)) (fun _ h_ => h_.1)) (fun _ h_ => h_.1))) (Kd.R_base ho1) hb); have n4_ := aaM (Kd.R_lower (Kd.R_new' (Kd.R_new' ho0 (Kd.R_lt (by (with_reducible repeat (first | apply rrA | apply rrN | apply rrD)); exact (Kd.R_mono (Kd.R_mono (rrF (p := ⟨gb281, 2, none⟩) (rrF (p := ⟨gb281, 1, none⟩) (rrF (p := ⟨gb281, 0, none⟩) (rrF (p := ⟨gb280, 5, none⟩) (rrF (p := ⟨gb280, 4, none⟩) (rrF (p := ⟨gb280, 3, none⟩) (rrF (p := ⟨gb280, 2, none⟩) (rrF (p := ⟨gb280, 1, none⟩) (rrF (p := ⟨gb280, 0, none⟩) (Kd.R_types (Kd.R_types HO259.out BK280.out (by decide)) BK281.out (by decide)) (fun _ hk => hk.1.2) (.int .i64 t266)) (fun _ hk => hk.1.2) (.int .i64 t267)) (fun _ hk => hk.1.2) (.int .i64 t268)) (fun _ hk => hk.1.2) (.slice Ao54 t269.length co54)) (fun _ hk => hk.1.2) (.slice Ao55 t272.length co55)) (fun _ hk => hk.1.2) (.bool t275)) (fun _ hk => hk.2) (.int .i64 t276)) (fun _ hk => hk.2) (.int .i64 t277)) (fun _ hk => hk.2) (.int .i64 t278)) (fun _ h_ => h_.1)) (fun _ h_ => h_.1))))) (Kd.R_lt (by (with_reducible repeat (first | apply rrA | apply rrN | apply rrD)); exact (Kd.R_mono (Kd.R_mono (rrF (p := ⟨gb281, 2, none⟩) (rrF (p := ⟨gb281, 1, none⟩) (rrF (p := ⟨gb281, 0, none⟩) (rrF (p := ⟨gb280, 5, none⟩) (rrF (p := ⟨gb280, 4, none⟩) (rrF (p := ⟨gb280, 3, none⟩) (rrF (p := ⟨gb280, 2, none⟩) (rrF (p := ⟨gb280, 1, none⟩) (rrF (p := ⟨gb280, 0, none⟩) (Kd.R_types (Kd.R_types HO271.out BK280.out (by decide)) BK281.out (by decide)) (fun _ hk => hk.1.2) (.int .i64 t266)) (fun _ hk => hk.1.2) (.int .i64 t267)) (fun _ hk => hk.1.2) (.int .i64 t268)) (fun _ hk => hk.1.2) (.slice Ao54 t269.length co54)) (fun _ hk => hk.1.2) (.slice Ao55 t272.length co55)) (fun _ hk => hk.1.2) (.bool t275)) (fun _ hk => hk.2) (.int .i64 t276)) (fun _ hk => hk.2) (.int .i64 t277)) (fun _ hk => hk.2) (.int .i64 t278)) (fun _ h_ => h_.1)) (fun _ h_ => h_.1))))) (lZ (by repeat (first | (with_reducible first | exact HB.out | apply lA | apply lN | apply lD | refine lS ?_ GE251.out | refine lS ?_ GE253.out | refine lS ?_ GE280.out | refine lS ?_ GE281.out) | exact HB.out)))); have n5_ := aaM (Kd.R_lower (Kd.R_new' (Kd.R_new' ho1 (Kd.R_lt (by (with_reducible repeat (first | apply rrA | apply rrN | apply rrD)); exact (Kd.R_mono (Kd.R_mono (rrF (p := ⟨gb281, 2, none⟩) (rrF (p := ⟨gb281, 1, none⟩) (rrF (p := ⟨gb281, 0, none⟩) (rrF (p := ⟨gb280, 5, none⟩) (rrF (p := ⟨gb280, 4, none⟩) (rrF (p := ⟨gb280, 3, none⟩) (rrF (p := ⟨gb280, 2, none⟩) (rrF (p := ⟨gb280, 1, none⟩) (rrF (p := ⟨gb280, 0, none⟩) (Kd.R_types (Kd.R_types HO265.out BK280.out (by decide)) BK281.out (by decide)) (fun _ hk => hk.1.2) (.int .i64 t266)) (fun _ hk => hk.1.2) (.int .i64 t267)) (fun _ hk => hk.1.2) (.int .i64 t268)) (fun _ hk => hk.1.2) (.slice Ao54 t269.length co54)) (fun _ hk => hk.1.2) (.slice Ao55 t272.length co55)) (fun _ hk => hk.1.2) (.bool t275)) (fun _ hk => hk.2) (.int .i64 t276)) (fun _ hk => hk.2) (.int .i64 t277)) (fun _ hk => hk.2) (.int .i64 t278)) (fun _ h_ => h_.1)) (fun _ h_ => h_.1))))) (Kd.R_lt (by (with_reducible repeat (first | apply rrA | apply rrN | apply rrD)); exact (Kd.R_mono (Kd.R_mono (rrF (p := ⟨gb281, 2, none⟩) (rrF (p := ⟨gb281, 1, none⟩) (rrF (p := ⟨gb281, 0, none⟩) (rrF (p := ⟨gb280, 5, none⟩) (rrF (p := ⟨gb280, 4, none⟩) (rrF (p := ⟨gb280, 3, none⟩) (rrF (p := ⟨gb280, 2, none⟩) (rrF (p := ⟨gb280, 1, none⟩) (rrF (p := ⟨gb280, 0, none⟩) (Kd.R_types (Kd.R_types HO274.out BK280.out (by decide)) BK281.out (by decide)) (fun _ hk => hk.1.2) (.int .i64 t266)) (fun _ hk => hk.1.2) (.int .i64 t267)) (fun _ hk => hk.1.2) (.int .i64 t268)) (fun _ hk => hk.1.2) (.slice Ao54 t269.length co54)) (fun _ hk => hk.1.2) (.slice Ao55 t272.length co55)) (fun _ hk => hk.1.2) (.bool t275)) (fun _ hk => hk.2) (.int .i64 t276)) (fun _ hk => hk.2) (.int .i64 t277)) (fun _ hk => hk.2) (.int .i64 t278)) (fun _ h_ => h_.1)) (fun _ h_ => h_.1))))) (lZ (by repeat (first | (with_reducible first | exact HB.out | apply lA | apply lN | apply lD | refine lS ?_ GE251.out | refine lS ?_ GE253.out | refine lS ?_ GE280.out | refine lS ?_ GE281.out) | exact HB.out)))); have n6_ := aaM (bB (g := gb251) (o := .cells #[.int .i64 a0_0, .int .i64 a0_1, .int .i64 a0_2, .slice A0_3 l0_3.length c0_3, .slice A0_4 l0_4.length c0_4, .bool a0_5] 42 (0, 0)) (by (with_reducible repeat (first | refine bN ?_ _ | refine bD ?_ | refine bA ?_ _)); refine blk_far ?_ NB251_281.out _; (with_reducible repeat (first | refine bN ?_ _ | refine bD ?_ | refine bA ?_ _)); refine blk_far ?_ NB251_281.out _; (with_reducible repeat (first | refine bN ?_ _ | refine bD ?_ | refine bA ?_ _)); refine blk_far ?_ NB251_281.out _; (with_reducible repeat (first | refine bN ?_ _ | refine bD ?_ | refine bA ?_ _)); refine blk_far ?_ NB251_280.out _; (with_reducible repeat (first | refine bN ?_ _ | refine bD ?_ | refine bA ?_ _)); refine blk_far ?_ NB251_280.out _; (with_reducible repeat (first | refine bN ?_ _ | refine bD ?_ | refine bA ?_ _)); refine blk_far ?_ NB251_280.out _; (with_reducible repeat (first | refine bN ?_ _ | refine bD ?_ | refine bA ?_ _)); refine blk_far ?_ NB251_280.out _; (with_reducible repeat (first | refine bN ?_ _ | refine bD ?_ | refine bA ?_ _)); refine blk_far ?_ NB251_280.out _; (with_reducible repeat (first | refine bN ?_ _ | refine bD ?_ | refine bA ?_ _)); refine blk_far ?_ NB251_280.out _; (with_reducible repeat (first | refine bN ?_ _ | refine bD ?_ | refine bA ?_ _)); exact BK251.out) hb); have n7_ := aaM (bB (g := gb253) (o := .cells #[.int .i64 a0_0, .int .i64 a0_1, .int .i64 a0_2, .slice Ao42 y257.length co42, .slice Ao44 y263.length co44, .bool a0_5] 42 (0, 0)) (by (with_reducible repeat (first | refine bN ?_ _ | refine bD ?_ | refine bA ?_ _)); refine blk_far ?_ NB253_281.out _; (with_reducible repeat (first | refine bN ?_ _ | refine bD ?_ | refine bA ?_ _)); refine blk_far ?_ NB253_281.out _; (with_reducible repeat (first | refine bN ?_ _ | refine bD ?_ | refine bA ?_ _)); refine blk_far ?_ NB253_281.out _; (with_reducible repeat (first | refine bN ?_ _ | refine bD ?_ | refine bA ?_ _)); refine blk_far ?_ NB253_280.out _; (with_reducible repeat (first | refine bN ?_ _ | refine bD ?_ | refine bA ?_ _)); refine blk_far ?_ NB253_280.out _; (with_reducible repeat (first | refine bN ?_ _ | refine bD ?_ | refine bA ?_ _)); refine blk_far ?_ NB253_280.out _; (with_reducible repeat (first | refine bN ?_ _ | refine bD ?_ | refine bA ?_ _)); refine blk_far ?_ NB253_280.out _; (with_reducible repeat (first | refine bN ?_ _ | refine bD ?_ | refine bA ?_ _)); refine blk_far ?_ NB253_280.out _; (with_reducible repeat (first | refine bN ?_ _ | refine bD ?_ | refine bA ?_ _)); refine blk_far ?_ NB253_280.out _; (with_reducible repeat (first | refine bN ?_ _ | refine bD ?_ | refine bA ?_ _)); exact BK253.out) hb); have n8_ := aaM (bB (g := gb280) (o := .cells #[.int .i64 t266, .int .i64 t267, .int .i64 t268, .slice Ao54 t269.length co54, .slice Ao55 t272.length co55, .bool t275] 42 (0, 0)) (by (with_reducible repeat (first | refine bN ?_ _ | refine bD ?_ | refine bA ?_ _)); refine blk_far ?_ NB280_281.out _; (with_reducible repeat (first | refine bN ?_ _ | refine bD ?_ | refine bA ?_ _)); refine blk_far ?_ NB280_281.out _; (with_reducible repeat (first | refine bN ?_ _ | refine bD ?_ | refine bA ?_ _)); refine blk_far ?_ NB280_281.out _; (with_reducible repeat (first | refine bN ?_ _ | refine bD ?_ | refine bA ?_ _)); refine blk_put (cs := #[.int .i64 t266, .int .i64 t267, .int .i64 t268, .slice Ao54 t269.length co54, .slice Ao55 t272.length co55, .bool false]) ?_ 5 _ rfl; (with_reducible repeat (first | refine bN ?_ _ | refine bD ?_ | refine bA ?_ _)); refine blk_put (cs := #[.int .i64 t266, .int .i64 t267, .int .i64 t268, .slice Ao54 t269.length co54, .slice none 0 0, .bool false]) ?_ 4 _ rfl; (with_reducible repeat (first | refine bN ?_ _ | refine bD ?_ | refine bA ?_ _)); refine blk_put (cs := #[.int .i64 t266, .int .i64 t267, .int .i64 t268, .slice none 0 0, .slice none 0 0, .bool false]) ?_ 3 _ rfl; (with_reducible repeat (first | refine bN ?_ _ | refine bD ?_ | refine bA ?_ _)); refine blk_put (cs := #[.int .i64 t266, .int .i64 t267, .int .i64 0, .slice none 0 0, .slice none 0 0, .bool false]) ?_ 2 _ rfl; (with_reducible repeat (first | refine bN ?_ _ | refine bD ?_ | refine bA ?_ _)); refine blk_put (cs := #[.int .i64 t266, .int .i64 0, .int .i64 0, .slice none 0 0, .slice none 0 0, .bool false]) ?_ 1 _ rfl; (with_reducible repeat (first | refine bN ?_ _ | refine bD ?_ | refine bA ?_ _)); refine blk_put (cs := #[.int .i64 0, .int .i64 0, .int .i64 0, .slice none 0 0, .slice none 0 0, .bool false]) ?_ 0 _ rfl; (with_reducible repeat (first | refine bN ?_ _ | refine bD ?_ | refine bA ?_ _)); exact BK280.out) hb); have n9_ := aaM (bB (g := gb281) (o := .cells #[.int .i64 t276, .int .i64 t277, .int .i64 t278] 52 (0, 0)) (by (with_reducible repeat (first | refine bN ?_ _ | refine bD ?_ | refine bA ?_ _)); refine blk_put (cs := #[.int .i64 t276, .int .i64 t277, .int .i64 0]) ?_ 2 _ rfl; (with_reducible repeat (first | refine bN ?_ _ | refine bD ?_ | refine bA ?_ _)); refine blk_put (cs := #[.int .i64 t276, .int .i64 0, .int .i64 0]) ?_ 1 _ rfl; (with_reducible repeat (first | refine bN ?_ _ | refine bD ?_ | refine bA ?_ _)); refine blk_put (cs := #[.int .i64 0, .int .i64 0, .int .i64 0]) ?_ 0 _ rfl; (with_reducible repeat (first | refine bN ?_ _ | refine bD ?_ | refine bA ?_ _)); refine blk_far ?_ NB281_280.out _; (with_reducible repeat (first | refine bN ?_ _ | refine bD ?_ | refine bA ?_ _)); refine blk_far ?_ NB281_280.out _; (with_reducible repeat (first | refine bN ?_ _ | refine bD ?_ | refine bA ?_ _)); refine blk_far ?_ NB281_280.out _; (with_reducible repeat (first | refine bN ?_ _ | refine bD ?_ | refine bA ?_ _)); refine blk_far ?_ NB281_280.out _; (with_reducible repeat (first | refine bN ?_ _ | refine bD ?_ | refine bA ?_ _)); refine blk_far ?_ NB281_280.out _; (with_reducible repeat (first | refine bN ?_ _ | refine bD ?_ | refine bA ?_ _)); refine blk_far ?_ NB281_280.out _; (with_reducible repeat (first | refine bN ?_ _ | refine bD ?_ | refine bA ?_ _)); exact BK281.out) hb); have n10_ := aaM (lP (by repeat (first | (with_reducible first | exact HB.out | apply lA | apply lN | apply lD | refine lS ?_ GE251.out | refine lS ?_ GE253.out | refine lS ?_ GE280.out | refine lS ?_ GE281.out) | exact HB.out)) hb); clear HO259; clear HO265; clear HO271; clear HO274; clear BK251; clear BK253; clear BK280; clear BK281; clear HB; have HO259 := n0_; have HO265 := n1_; have HO271 := n2_; have HO274 := n3_; have HO287 := n4_; have HO290 := n5_; have BK251 := n6_; have BK253 := n7_; have BK280 := n8_; have BK281 := n9_; have HB := n10_; clear n0_ n1_ n2_ n3_ n4_ n5_ n6_ n7_ n8_ n9_ n10_; (try clear hb); (try clear hb2); (try clear hk); (try clear hi); (try clear ho0); (try clear ho1)) | ((with_reducible refine gate_dst (N := 9) rfl ?_); (try (refine gate_guard (by rfl) ?_; dsimp only)); refine box_event ?hg (N := 9) ?hd (cs := #[.int .i64 0, .int .i64 0, .int .i64 0, .slice none 0 0, .slice none 0 0, .bool false]) (t := 42) ?hr ?_; (case hd => rfl); (case hg => rfl); (case hr => first | (go_simp; done) | (go_simp; rfl)); intro gb296 hg w61 hbox hb; have n0_ := aaM (rrB (by (with_reducible repeat (first | apply rrA | apply rrN | apply rrD)); exact HO259.out) hb); have n1_ := aaM (rrB (by (with_reducible repeat (first | apply rrA | apply rrN | apply rrD)); exact HO265.out) hb); have n2_ := aaM (rrB (by (with_reducible repeat (first | apply rrA | apply rrN | apply rrD)); exact HO271.out) hb); have n3_ := aaM (rrB (by (with_reducible repeat (first | apply rrA | apply rrN | apply rrD)); exact HO274.out) hb); have n4_ := aaM (rrB (by (with_reducible repeat (first | apply rrA | apply rrN | apply rrD)); exact HO287.out) hb); have n5_ := aaM (rrB (by (with_reducible repeat (first | apply rrA | apply rrN | apply rrD)); exact HO290.out) hb); have n6_ := aaM (bB (g := gb251) (o := .cells #[.int .i64 a0_0, .int .i64 a0_1, .int .i64 a0_2, .slice A0_3 l0_3.length c0_3, .slice A0_4 l0_4.length c0_4, .bool a0_5] 42 (0, 0)) (by (with_reducible repeat (first | refine bN ?_ _ | refine bD ?_ | refine bA ?_ _)); exact BK251.out) hb); have n7_ := aaM (bB (g := gb253) (o := .cells #[.int .i64 a0_0, .int .i64 a0_1, .int .i64 a0_2, .slice Ao42 y257.length co42, .slice Ao44 y263.length co44, .bool a0_5] 42 (0, 0)) (by (with_reducible repeat (first | refine bN ?_ _ | refine bD ?_ | refine bA ?_ _)); exact BK253.out) hb); have n8_ := aaM (bB (g := gb280) (o := .cells #[.int .i64 t266, .int .i64 t267, .int .i64 t268, .slice Ao54 t269.length co54, .slice Ao55 t272.length co55, .bool t275] 42 (0, 0)) (by (with_reducible repeat (first | refine bN ?_ _ | refine bD ?_ | refine bA ?_ _)); exact BK280.out) hb); have n9_ := aaM (bB (g := gb281) (o := .cells #[.int .i64 t276, .int .i64 t277, .int .i64 t278] 52 (0, 0)) (by (with_reducible repeat (first | refine bN ?_ _ | refine bD ?_ | refine bA ?_ _)); exact BK281.out) hb); have n10_ := aaM (lP (by repeat (first | (with_reducible first | exact HB.out | apply lA | apply lN | apply lD | refine lS ?_ GE251.out | refine lS ?_ GE253.out | refine lS ?_ GE280.out | refine lS ?_ GE281.out) | exact HB.out)) hb); have n11_ := aaM (hbox); have n12_ := aaM ((by rw [hg]; exact (lZ (by repeat (first | (with_reducible first | exact HB.out | apply lA | apply lN | apply lD | refine lS ?_ GE251.out | refine lS ?_ GE253.out | refine lS ?_ GE280.out | refine lS ?_ GE281.out) | exact HB.out))) : w.heap.size ≤ gb296)); have n13_ := aaM ((by rw [hg]; exact (lZ (by repeat (first | (with_reducible first | exact HB.out | apply lA | apply lN | apply lD | refine lS ?_ GE251.out | refine lS ?_ GE253.out | refine lS ?_ GE280.out | refine lS ?_ GE281.out) | exact HB.out))) : w.heap.size ≤ gb296)); have n14_ := aaM ((by rw [hg]; exact Nat.ne_of_lt (bL (g := gb251) (by (with_reducible repeat (first | refine bN ?_ _ | refine bD ?_ | refine bA ?_ _)); exact BK251.out)) : gb251 ≠ gb296)); have n15_ := aaM ((by rw [hg]; exact Nat.ne_of_gt (bL (g := gb251) (by (with_reducible repeat (first | refine bN ?_ _ | refine bD ?_ | refine bA ?_ _)); exact BK251.out)) : gb296 ≠ gb251)); have n16_ := aaM ((by rw [hg]; exact Nat.ne_of_lt (bL (g := gb253) (by (with_reducible repeat (first | refine bN ?_ _ | refine bD ?_ | refine bA ?_ _)); exact BK253.out)) : gb253 ≠ gb296)); have n17_ := aaM ((by rw [hg]; exact Nat.ne_of_gt (bL (g := gb253) (by (with_reducible repeat (first | refine bN ?_ _ | refine bD ?_ | refine bA ?_ _)); exact BK253.out)) : gb296 ≠ gb253)); have n18_ := aaM ((by rw [hg]; exact Nat.ne_of_lt (bL (g := gb280) (by (with_reducible repeat (first | refine bN ?_ _ | refine bD ?_ | refine bA ?_ _)); exact BK280.out)) : gb280 ≠ gb296)); have n19_ := aaM ((by rw [hg]; exact Nat.ne_of_gt (bL (g := gb280) (by (with_reducible repeat (first | refine bN ?_ _ | refine bD ?_ | refine bA ?_ _)); exact BK280.out)) : gb296 ≠ gb280)); have n20_ := aaM ((by rw [hg]; exact Nat.ne_of_lt (bL (g := gb281) (by (with_reducible repeat (first | refine bN ?_ _ | refine bD ?_ | refine bA ?_ _)); exact BK281.out)) : gb281 ≠ gb296)); have n21_ := aaM ((by rw [hg]; exact Nat.ne_of_gt (bL (g := gb281) (by (with_reducible repeat (first | refine bN ?_ _ | refine bD ?_ | refine bA ?_ _)); exact BK281.out)) : gb296 ≠ gb281)); clear HO259; clear HO265; clear HO271; clear HO274; clear HO287; clear HO290; clear BK251; clear BK253; clear BK280; clear BK281; clear HB; have HO259 := n0_; have HO265 := n1_; have HO271 := n2_; have HO274 := n3_; have HO287 := n4_; have HO290 := n5_; have BK251 := n6_; have BK253 := n7_; have BK280 := n8_; have BK281 := n9_; have HB := n10_; have BK296 := n11_; have GW296 := n12_; have GE296 := n13_; have NB251_296 := n14_; have NB296_251 := n15_; have NB253_296 := n16_; have NB296_253 := n17_; have NB280_296 := n18_; have NB296_280 := n19_; have NB281_296 := n20_; have NB296_281 := n21_; clear n0_ n1_ n2_ n3_ n4_ n5_ n6_ n7_ n8_ n9_ n10_ n11_ n12_ n13_ n14_ n15_ n16_ n17_ n18_ n19_ n20_ n21_; clear hb hbox hg) | ((with_reducible refine gate_dst (N := 10) rfl ?_); (try (refine gate_guard (by rfl) ?_; dsimp only)); refine box_event ?hg (N := 10) ?hd (cs := #[.int .i64 0, .int .i64 0, .int .i64 0]) (t := 52) ?hr ?_; (case hd => rfl); (case hg => rfl); (case hr => first | (go_simp; done) | (go_simp; rfl)); intro gb297 hg w62 hbox hb; have n0_ := aaM (rrB (by (with_reducible repeat (first | apply rrA | apply rrN | apply rrD)); exact HO259.out) hb); have n1_ := aaM (rrB (by (with_reducible repeat (first | apply rrA | apply rrN | apply rrD)); exact HO265.out) hb); have n2_ := aaM (rrB (by (with_reducible repeat (first | apply rrA | apply rrN | apply rrD)); exact HO271.out) hb); have n3_ := aaM (rrB (by (with_reducible repeat (first | apply rrA | apply rrN | apply rrD)); exact HO274.out) hb); have n4_ := aaM (rrB (by (with_reducible repeat (first | apply rrA | apply rrN | apply rrD)); exact HO287.out) hb); have n5_ := aaM (rrB (by (with_reducible repeat (first | apply rrA | apply rrN | apply rrD)); exact HO290.out) hb); have n6_ := aaM (bB (g := gb251) (o := .cells #[.int .i64 a0_0, .int .i64 a0_1, .int .i64 a0_2, .slice A0_3 l0_3.length c0_3, .slice A0_4 l0_4.length c0_4, .bool a0_5] 42 (0, 0)) (by (with_reducible repeat (first | refine bN ?_ _ | refine bD ?_ | refine bA ?_ _)); exact BK251.out) hb); have n7_ := aaM (bB (g := gb253) (o := .cells #[.int .i64 a0_0, .int .i64 a0_1, .int .i64 a0_2, .slice Ao42 y257.length co42, .slice Ao44 y263.length co44, .bool a0_5] 42 (0, 0)) (by (with_reducible repeat (first | refine bN ?_ _ | refine bD ?_ | refine bA ?_ _)); exact BK253.out) hb); have n8_ := aaM (bB (g := gb280) (o := .cells #[.int .i64 t266, .int .i64 t267, .int .i64 t268, .slice Ao54 t269.length co54, .slice Ao55 t272.length co55, .bool t275] 42 (0, 0)) (by (with_reducible repeat (first | refine bN ?_ _ | refine bD ?_ | refine bA ?_ _)); exact BK280.out) hb); have n9_ := aaM (bB (g := gb281) (o := .cells #[.int .i64 t276, .int .i64 t277, .int .i64 t278] 52 (0, 0)) (by (with_reducible repeat (first | refine bN ?_ _ | refine bD ?_ | refine bA ?_ _)); exact BK281.out) hb); have n10_ := aaM (bB (g := gb296) (o := .cells #[.int .i64 0, .int .i64 0, .int .i64 0, .slice none 0 0, .slice none 0 0, .bool false] 42 (0, 0)) (by (with_reducible repeat (first | refine bN ?_ _ | refine bD ?_ | refine bA ?_ _)); exact BK296.out) hb); have n11_ := aaM (lP (by repeat (first | (with_reducible first | exact HB.out | apply lA | apply lN | apply lD | refine lS ?_ GE251.out | refine lS ?_ GE253.out | refine lS ?_ GE280.out | refine lS ?_ GE281.out | refine lS ?_ GE296.out) | exact HB.out)) hb); have n12_ := aaM (hbox); have n13_ := aaM ((by rw [hg]; exact (lZ (by repeat (first | (with_reducible first | exact HB.out | apply lA | apply lN | apply lD | refine lS ?_ GE251.out | refine lS ?_ GE253.out | refine lS ?_ GE280.out | refine lS ?_ GE281.out | refine lS ?_ GE296.out) | exact HB.out))) : w.heap.size ≤ gb297)); have n14_ := aaM ((by rw [hg]; exact (lZ (by repeat (first | (with_reducible first | exact HB.out | apply lA | apply lN | apply lD | refine lS ?_ GE251.out | refine lS ?_ GE253.out | refine lS ?_ GE280.out | refine lS ?_ GE281.out | refine lS ?_ GE296.out) | exact HB.out))) : w.heap.size ≤ gb297)); have n15_ := aaM ((by rw [hg]; exact Nat.ne_of_lt (bL (g := gb251) (by (with_reducible repeat (first | refine bN ?_ _ | refine bD ?_ | refine bA ?_ _)); exact BK251.out)) : gb251 ≠ gb297)); have n16_ := aaM ((by rw [hg]; exact Nat.ne_of_gt (bL (g := gb251) (by (with_reducible repeat (first | refine bN ?_ _ | refine bD ?_ | refine bA ?_ _)); exact BK251.out)) : gb297 ≠ gb251)); have n17_ := aaM ((by rw [hg]; exact Nat.ne_of_lt (bL (g := gb253) (by (with_reducible repeat (first | refine bN ?_ _ | refine bD ?_ | refine bA ?_ _)); exact BK253.out)) : gb253 ≠ gb297)); have n18_ := aaM ((by rw [hg]; exact Nat.ne_of_gt (bL (g := gb253) (by (with_reducible repeat (first | refine bN ?_ _ | refine bD ?_ | refine bA ?_ _)); exact BK253.out)) : gb297 ≠ gb253)); have n19_ := aaM ((by rw [hg]; exact Nat.ne_of_lt (bL (g := gb280) (by (with_reducible repeat (first | refine bN ?_ _ | refine bD ?_ | refine bA ?_ _)); exact BK280.out)) : gb280 ≠ gb297)); have n20_ := aaM ((by rw [hg]; exact Nat.ne_of_gt (bL (g := gb280) (by (with_reducible repeat (first | refine bN ?_ _ | refine bD ?_ | refine bA ?_ _)); exact BK280.out)) : gb297 ≠ gb280)); have n21_ := aaM ((by rw [hg]; exact Nat.ne_of_lt (bL (g := gb281) (by (with_reducible repeat (first | refine bN ?_ _ | refine bD ?_ | refine bA ?_ _)); exact BK281.out)) : gb281 ≠ gb297)); have n22_ := aaM ((by rw [hg]; exact Nat.ne_of_gt (bL (g := gb281) (by (with_reducible repeat (first | refine bN ?_ _ | refine bD ?_ | refine bA ?_ _)); exact BK281.out)) : gb297 ≠ gb281)); have n23_ := aaM ((by rw [hg]; exact Nat.ne_of_lt (bL (g := gb296) (by (with_reducible repeat (first | refine bN ?_ _ | refine bD ?_ | refine bA ?_ _)); exact BK296.out)) : gb296 ≠ gb297)); have n24_ := aaM ((by rw [hg]; exact Nat.ne_of_gt (bL (g := gb296) (by (with_reducible repeat (first | refine bN ?_ _ | refine bD ?_ | refine bA ?_ _)); exact BK296.out)) : gb297 ≠ gb296)); clear HO259; clear HO265; clear HO271; clear HO274; clear HO287; clear HO290; clear BK251; clear BK253; clear BK280; clear BK281; clear BK296; clear HB; have HO259 := n0_; have HO265 := n1_; have HO271 := n2_; have HO274 := n3_; have HO287 := n4_; have HO290 := n5_; have BK251 := n6_; have BK253 := n7_; have BK280 := n8_; have BK281 := n9_; have BK296 := n10_; have HB := n11_; have BK297 := n12_; have GW297 := n13_; have GE297 := n14_; have NB251_297 := n15_; have NB297_251 := n16_; have NB253_297 := n17_; have NB297_253 := n18_; have NB280_297 := n19_; have NB297_280 := n20_; have NB281_297 := n21_; have NB297_281 := n22_; have NB296_297 := n23_; have NB297_296 := n24_; clear n0_ n1_ n2_ n3_ n4_ n5_ n6_ n7_ n8_ n9_ n10_ n11_ n12_ n13_ n14_ n15_ n16_ n17_ n18_ n19_ n20_ n21_ n22_ n23_ n24_; clear hb hbox hg; have hnb63 := NB296_251.out; have hnc63 := NB251_296.out; have hnb64 := NB296_253.out; have hnc64 := NB253_296.out; have hnb65 := NB296_280.out; have hnc65 := NB280_296.out; have hnb66 := NB296_281.out; have hnc66 := NB281_296.out; have hnb67 := NB296_297.out; have hnc67 := NB297_296.out; have hcz68_0 : w62.cell? ⟨gb296, 0, none⟩ = some (.int .i64 0) := (bC BK296.out 0).trans rfl; have hcz68_1 : w62.cell? ⟨gb296, 1, none⟩ = some (.int .i64 0) := (bC BK296.out 1).trans rfl; have hcz68_2 : w62.cell? ⟨gb296, 2, none⟩ = some (.int .i64 0) := (bC BK296.out 2).trans rfl; have hcz68_3 : w62.cell? ⟨gb296, 3, none⟩ = some (.slice none 0 0) := (bC BK296.out 3).trans rfl; have hcz68_4 : w62.cell? ⟨gb296, 4, none⟩ = some (.slice none 0 0) := (bC BK296.out 4).trans rfl; have hcz68_5 : w62.cell? ⟨gb296, 5, none⟩ = some (.bool false) := (bC BK296.out 5).trans rfl; have hfz68_0 := bF BK296.out 0; have hfz68_1 := bF BK296.out 1; have hfz68_2 := bF BK296.out 2; have hfz68_3 := bF BK296.out 3; have hfz68_4 := bF BK296.out 4; have hfz68_5 := bF BK296.out 5; obtain ⟨Ao69, co69, eo69⟩ := Kd.R_slice HO287.out; subst eo69; obtain ⟨Ao70, co70, eo70⟩ := Kd.R_slice HO290.out; subst eo70; have hnb71 := NB297_251.out; have hnc71 := NB251_297.out; have hnb72 := NB297_253.out; have hnc72 := NB253_297.out; have hnb73 := NB297_280.out; have hnc73 := NB280_297.out; have hnb74 := NB297_281.out; have hnc74 := NB281_297.out; have hcz75_0 : w62.cell? ⟨gb297, 0, none⟩ = some (.int .i64 0) := (bC BK297.out 0).trans rfl; have hcz75_1 : w62.cell? ⟨gb297, 1, none⟩ = some (.int .i64 0) := (bC BK297.out 1).trans rfl; have hcz75_2 : w62.cell? ⟨gb297, 2, none⟩ = some (.int .i64 0) := (bC BK297.out 2).trans rfl; have hfz75_0 := bF BK297.out 0; have hfz75_1 := bF BK297.out 1; have hfz75_2 := bF BK297.out 2))
            have n0_ : Aside0 (Kd.R (Kd.int .i64) 3 (((((((((w62.setCell ⟨gb296, 0, none⟩ (.int .i64 t282)).setCell ⟨gb296, 1, none⟩ (.int .i64 t283)).setCell ⟨gb296, 2, none⟩ (.int .i64 t284)).setCell ⟨gb296, 3, none⟩ (.slice Ao69 t285.length co69)).setCell ⟨gb296, 4, none⟩ (.slice Ao70 t288.length co70)).setCell ⟨gb296, 5, none⟩ (.bool t291)).setCell ⟨gb297, 0, none⟩ (.int .i64 t292)).setCell ⟨gb297, 1, none⟩ (.int .i64 t293)).setCell ⟨gb297, 2, none⟩ (.int .i64 t294)) w.heap.size (fun k_ => some k_ ≠ (.slice Ao54 t269.length co54 : Value).ownBlock ∧ some k_ ≠ (.slice Ao69 t285.length co69 : Value).ownBlock) (.slice Ao42 y257.length co42) y257) := ⟨by (with_reducible repeat (first | apply rrA | apply rrN | apply rrD)); exact Kd.R_mono (rrF (p := ⟨gb297, 2, none⟩) (rrF (p := ⟨gb297, 1, none⟩) (rrF (p := ⟨gb297, 0, none⟩) (rrF (p := ⟨gb296, 5, none⟩) (rrF (p := ⟨gb296, 4, none⟩) (rrF (p := ⟨gb296, 3, none⟩) (rrF (p := ⟨gb296, 2, none⟩) (rrF (p := ⟨gb296, 1, none⟩) (rrF (p := ⟨gb296, 0, none⟩) (Kd.R_types (Kd.R_types HO259.out BK296.out (by decide)) BK297.out (by decide)) (fun _ hk => hk.1.2) (.int .i64 t282)) (fun _ hk => hk.1.2) (.int .i64 t283)) (fun _ hk => hk.1.2) (.int .i64 t284)) (fun _ hk => hk.1.2) (.slice Ao69 t285.length co69)) (fun _ hk => hk.1.2) (.slice Ao70 t288.length co70)) (fun _ hk => hk.1.2) (.bool t291)) (fun _ hk => hk.2) (.int .i64 t292)) (fun _ hk => hk.2) (.int .i64 t293)) (fun _ hk => hk.2) (.int .i64 t294)) (fun _ hk => ⟨hk.1.1.1.2, hk.1.1.2⟩)⟩
            have n1_ : Aside0 (Kd.R Kd.bool 4 (((((((((w62.setCell ⟨gb296, 0, none⟩ (.int .i64 t282)).setCell ⟨gb296, 1, none⟩ (.int .i64 t283)).setCell ⟨gb296, 2, none⟩ (.int .i64 t284)).setCell ⟨gb296, 3, none⟩ (.slice Ao69 t285.length co69)).setCell ⟨gb296, 4, none⟩ (.slice Ao70 t288.length co70)).setCell ⟨gb296, 5, none⟩ (.bool t291)).setCell ⟨gb297, 0, none⟩ (.int .i64 t292)).setCell ⟨gb297, 1, none⟩ (.int .i64 t293)).setCell ⟨gb297, 2, none⟩ (.int .i64 t294)) w.heap.size (fun k_ => some k_ ≠ (.slice Ao55 t272.length co55 : Value).ownBlock ∧ some k_ ≠ (.slice Ao70 t288.length co70 : Value).ownBlock) (.slice Ao44 y263.length co44) y263) := ⟨by (with_reducible repeat (first | apply rrA | apply rrN | apply rrD)); exact Kd.R_mono (rrF (p := ⟨gb297, 2, none⟩) (rrF (p := ⟨gb297, 1, none⟩) (rrF (p := ⟨gb297, 0, none⟩) (rrF (p := ⟨gb296, 5, none⟩) (rrF (p := ⟨gb296, 4, none⟩) (rrF (p := ⟨gb296, 3, none⟩) (rrF (p := ⟨gb296, 2, none⟩) (rrF (p := ⟨gb296, 1, none⟩) (rrF (p := ⟨gb296, 0, none⟩) (Kd.R_types (Kd.R_types HO265.out BK296.out (by decide)) BK297.out (by decide)) (fun _ hk => hk.1.2) (.int .i64 t282)) (fun _ hk => hk.1.2) (.int .i64 t283)) (fun _ hk => hk.1.2) (.int .i64 t284)) (fun _ hk => hk.1.2) (.slice Ao69 t285.length co69)) (fun _ hk => hk.1.2) (.slice Ao70 t288.length co70)) (fun _ hk => hk.1.2) (.bool t291)) (fun _ hk => hk.2) (.int .i64 t292)) (fun _ hk => hk.2) (.int .i64 t293)) (fun _ hk => hk.2) (.int .i64 t294)) (fun _ hk => ⟨hk.1.1.1.2, hk.1.1.2⟩)⟩
            have n2_ : Aside0 (Kd.R (Kd.int .i64) 3 (((((((((w62.setCell ⟨gb296, 0, none⟩ (.int .i64 t282)).setCell ⟨gb296, 1, none⟩ (.int .i64 t283)).setCell ⟨gb296, 2, none⟩ (.int .i64 t284)).setCell ⟨gb296, 3, none⟩ (.slice Ao69 t285.length co69)).setCell ⟨gb296, 4, none⟩ (.slice Ao70 t288.length co70)).setCell ⟨gb296, 5, none⟩ (.bool t291)).setCell ⟨gb297, 0, none⟩ (.int .i64 t292)).setCell ⟨gb297, 1, none⟩ (.int .i64 t293)).setCell ⟨gb297, 2, none⟩ (.int .i64 t294)) w.heap.size (fun k_ => some k_ ≠ (.slice Ao42 y257.length co42 : Value).ownBlock ∧ some k_ ≠ (.slice Ao69 t285.length co69 : Value).ownBlock) (.slice Ao54 t269.length co54) t269) := ⟨by (with_reducible repeat (first | apply rrA | apply rrN | apply rrD)); exact Kd.R_mono (rrF (p := ⟨gb297, 2, none⟩) (rrF (p := ⟨gb297, 1, none⟩) (rrF (p := ⟨gb297, 0, none⟩) (rrF (p := ⟨gb296, 5, none⟩) (rrF (p := ⟨gb296, 4, none⟩) (rrF (p := ⟨gb296, 3, none⟩) (rrF (p := ⟨gb296, 2, none⟩) (rrF (p := ⟨gb296, 1, none⟩) (rrF (p := ⟨gb296, 0, none⟩) (Kd.R_types (Kd.R_types HO271.out BK296.out (by decide)) BK297.out (by decide)) (fun _ hk => hk.1.2) (.int .i64 t282)) (fun _ hk => hk.1.2) (.int .i64 t283)) (fun _ hk => hk.1.2) (.int .i64 t284)) (fun _ hk => hk.1.2) (.slice Ao69 t285.length co69)) (fun _ hk => hk.1.2) (.slice Ao70 t288.length co70)) (fun _ hk => hk.1.2) (.bool t291)) (fun _ hk => hk.2) (.int .i64 t292)) (fun _ hk => hk.2) (.int .i64 t293)) (fun _ hk => hk.2) (.int .i64 t294)) (fun _ hk => ⟨hk.1.1.1.2, hk.1.1.2⟩)⟩
            have n3_ : Aside0 (Kd.R Kd.bool 4 (((((((((w62.setCell ⟨gb296, 0, none⟩ (.int .i64 t282)).setCell ⟨gb296, 1, none⟩ (.int .i64 t283)).setCell ⟨gb296, 2, none⟩ (.int .i64 t284)).setCell ⟨gb296, 3, none⟩ (.slice Ao69 t285.length co69)).setCell ⟨gb296, 4, none⟩ (.slice Ao70 t288.length co70)).setCell ⟨gb296, 5, none⟩ (.bool t291)).setCell ⟨gb297, 0, none⟩ (.int .i64 t292)).setCell ⟨gb297, 1, none⟩ (.int .i64 t293)).setCell ⟨gb297, 2, none⟩ (.int .i64 t294)) w.heap.size (fun k_ => some k_ ≠ (.slice Ao44 y263.length co44 : Value).ownBlock ∧ some k_ ≠ (.slice Ao70 t288.length co70 : Value).ownBlock) (.slice Ao55 t272.length co55) t272) := ⟨by (with_reducible repeat (first | apply rrA | apply rrN | apply rrD)); exact Kd.R_mono (rrF (p := ⟨gb297, 2, none⟩) (rrF (p := ⟨gb297, 1, none⟩) (rrF (p := ⟨gb297, 0, none⟩) (rrF (p := ⟨gb296, 5, none⟩) (rrF (p := ⟨gb296, 4, none⟩) (rrF (p := ⟨gb296, 3, none⟩) (rrF (p := ⟨gb296, 2, none⟩) (rrF (p := ⟨gb296, 1, none⟩) (rrF (p := ⟨gb296, 0, none⟩) (Kd.R_types (Kd.R_types HO274.out BK296.out (by decide)) BK297.out (by decide)) (fun _ hk => hk.1.2) (.int .i64 t282)) (fun _ hk => hk.1.2) (.int .i64 t283)) (fun _ hk => hk.1.2) (.int .i64 t284)) (fun _ hk => hk.1.2) (.slice Ao69 t285.length co69)) (fun _ hk => hk.1.2) (.slice Ao70 t288.length co70)) (fun _ hk => hk.1.2) (.bool t291)) (fun _ hk => hk.2) (.int .i64 t292)) (fun _ hk => hk.2) (.int .i64 t293)) (fun _ hk => hk.2) (.int .i64 t294)) (fun _ hk => ⟨hk.1.1.1.2, hk.1.1.2⟩)⟩
            have n4_ : Aside0 (Kd.R (Kd.int .i64) 3 (((((((((w62.setCell ⟨gb296, 0, none⟩ (.int .i64 t282)).setCell ⟨gb296, 1, none⟩ (.int .i64 t283)).setCell ⟨gb296, 2, none⟩ (.int .i64 t284)).setCell ⟨gb296, 3, none⟩ (.slice Ao69 t285.length co69)).setCell ⟨gb296, 4, none⟩ (.slice Ao70 t288.length co70)).setCell ⟨gb296, 5, none⟩ (.bool t291)).setCell ⟨gb297, 0, none⟩ (.int .i64 t292)).setCell ⟨gb297, 1, none⟩ (.int .i64 t293)).setCell ⟨gb297, 2, none⟩ (.int .i64 t294)) w.heap.size (fun k_ => some k_ ≠ (.slice Ao42 y257.length co42 : Value).ownBlock ∧ some k_ ≠ (.slice Ao54 t269.length co54 : Value).ownBlock) (.slice Ao69 t285.length co69) t285) := ⟨by (with_reducible repeat (first | apply rrA | apply rrN | apply rrD)); exact Kd.R_mono (rrF (p := ⟨gb297, 2, none⟩) (rrF (p := ⟨gb297, 1, none⟩) (rrF (p := ⟨gb297, 0, none⟩) (rrF (p := ⟨gb296, 5, none⟩) (rrF (p := ⟨gb296, 4, none⟩) (rrF (p := ⟨gb296, 3, none⟩) (rrF (p := ⟨gb296, 2, none⟩) (rrF (p := ⟨gb296, 1, none⟩) (rrF (p := ⟨gb296, 0, none⟩) (Kd.R_types (Kd.R_types HO287.out BK296.out (by decide)) BK297.out (by decide)) (fun _ hk => hk.1.2) (.int .i64 t282)) (fun _ hk => hk.1.2) (.int .i64 t283)) (fun _ hk => hk.1.2) (.int .i64 t284)) (fun _ hk => hk.1.2) (.slice Ao69 t285.length co69)) (fun _ hk => hk.1.2) (.slice Ao70 t288.length co70)) (fun _ hk => hk.1.2) (.bool t291)) (fun _ hk => hk.2) (.int .i64 t292)) (fun _ hk => hk.2) (.int .i64 t293)) (fun _ hk => hk.2) (.int .i64 t294)) (fun _ hk => ⟨hk.1.1.1.2, hk.1.1.2⟩)⟩
            have n5_ : Aside0 (Kd.R Kd.bool 4 (((((((((w62.setCell ⟨gb296, 0, none⟩ (.int .i64 t282)).setCell ⟨gb296, 1, none⟩ (.int .i64 t283)).setCell ⟨gb296, 2, none⟩ (.int .i64 t284)).setCell ⟨gb296, 3, none⟩ (.slice Ao69 t285.length co69)).setCell ⟨gb296, 4, none⟩ (.slice Ao70 t288.length co70)).setCell ⟨gb296, 5, none⟩ (.bool t291)).setCell ⟨gb297, 0, none⟩ (.int .i64 t292)).setCell ⟨gb297, 1, none⟩ (.int .i64 t293)).setCell ⟨gb297, 2, none⟩ (.int .i64 t294)) w.heap.size (fun k_ => some k_ ≠ (.slice Ao44 y263.length co44 : Value).ownBlock ∧ some k_ ≠ (.slice Ao55 t272.length co55 : Value).ownBlock) (.slice Ao70 t288.length co70) t288) := ⟨by (with_reducible repeat (first | apply rrA | apply rrN | apply rrD)); exact Kd.R_mono (rrF (p := ⟨gb297, 2, none⟩) (rrF (p := ⟨gb297, 1, none⟩) (rrF (p := ⟨gb297, 0, none⟩) (rrF (p := ⟨gb296, 5, none⟩) (rrF (p := ⟨gb296, 4, none⟩) (rrF (p := ⟨gb296, 3, none⟩) (rrF (p := ⟨gb296, 2, none⟩) (rrF (p := ⟨gb296, 1, none⟩) (rrF (p := ⟨gb296, 0, none⟩) (Kd.R_types (Kd.R_types HO290.out BK296.out (by decide)) BK297.out (by decide)) (fun _ hk => hk.1.2) (.int .i64 t282)) (fun _ hk => hk.1.2) (.int .i64 t283)) (fun _ hk => hk.1.2) (.int .i64 t284)) (fun _ hk => hk.1.2) (.slice Ao69 t285.length co69)) (fun _ hk => hk.1.2) (.slice Ao70 t288.length co70)) (fun _ hk => hk.1.2) (.bool t291)) (fun _ hk => hk.2) (.int .i64 t292)) (fun _ hk => hk.2) (.int .i64 t293)) (fun _ hk => hk.2) (.int .i64 t294)) (fun _ hk => ⟨hk.1.1.1.2, hk.1.1.2⟩)⟩
            have n6_ : Aside0 ((((((((((w62.setCell ⟨gb296, 0, none⟩ (.int .i64 t282)).setCell ⟨gb296, 1, none⟩ (.int .i64 t283)).setCell ⟨gb296, 2, none⟩ (.int .i64 t284)).setCell ⟨gb296, 3, none⟩ (.slice Ao69 t285.length co69)).setCell ⟨gb296, 4, none⟩ (.slice Ao70 t288.length co70)).setCell ⟨gb296, 5, none⟩ (.bool t291)).setCell ⟨gb297, 0, none⟩ (.int .i64 t292)).setCell ⟨gb297, 1, none⟩ (.int .i64 t293)).setCell ⟨gb297, 2, none⟩ (.int .i64 t294)).heap[gb251]? = some (.cells #[.int .i64 a0_0, .int .i64 a0_1, .int .i64 a0_2, .slice A0_3 l0_3.length c0_3, .slice A0_4 l0_4.length c0_4, .bool a0_5] 42 (0, 0))) := ⟨by (with_reducible repeat (first | refine bN ?_ _ | refine bD ?_ | refine bA ?_ _)); refine blk_far ?_ NB251_297.out _; (with_reducible repeat (first | refine bN ?_ _ | refine bD ?_ | refine bA ?_ _)); refine blk_far ?_ NB251_297.out _; (with_reducible repeat (first | refine bN ?_ _ | refine bD ?_ | refine bA ?_ _)); refine blk_far ?_ NB251_297.out _; (with_reducible repeat (first | refine bN ?_ _ | refine bD ?_ | refine bA ?_ _)); refine blk_far ?_ NB251_296.out _; (with_reducible repeat (first | refine bN ?_ _ | refine bD ?_ | refine bA ?_ _)); refine blk_far ?_ NB251_296.out _; (with_reducible repeat (first | refine bN ?_ _ | refine bD ?_ | refine bA ?_ _)); refine blk_far ?_ NB251_296.out _; (with_reducible repeat (first | refine bN ?_ _ | refine bD ?_ | refine bA ?_ _)); refine blk_far ?_ NB251_296.out _; (with_reducible repeat (first | refine bN ?_ _ | refine bD ?_ | refine bA ?_ _)); refine blk_far ?_ NB251_296.out _; (with_reducible repeat (first | refine bN ?_ _ | refine bD ?_ | refine bA ?_ _)); refine blk_far ?_ NB251_296.out _; (with_reducible repeat (first | refine bN ?_ _ | refine bD ?_ | refine bA ?_ _)); exact BK251.out⟩
            have n7_ : Aside0 ((((((((((w62.setCell ⟨gb296, 0, none⟩ (.int .i64 t282)).setCell ⟨gb296, 1, none⟩ (.int .i64 t283)).setCell ⟨gb296, 2, none⟩ (.int .i64 t284)).setCell ⟨gb296, 3, none⟩ (.slice Ao69 t285.length co69)).setCell ⟨gb296, 4, none⟩ (.slice Ao70 t288.length co70)).setCell ⟨gb296, 5, none⟩ (.bool t291)).setCell ⟨gb297, 0, none⟩ (.int .i64 t292)).setCell ⟨gb297, 1, none⟩ (.int .i64 t293)).setCell ⟨gb297, 2, none⟩ (.int .i64 t294)).heap[gb253]? = some (.cells #[.int .i64 a0_0, .int .i64 a0_1, .int .i64 a0_2, .slice Ao42 y257.length co42, .slice Ao44 y263.length co44, .bool a0_5] 42 (0, 0))) := ⟨by (with_reducible repeat (first | refine bN ?_ _ | refine bD ?_ | refine bA ?_ _)); refine blk_far ?_ NB253_297.out _; (with_reducible repeat (first | refine bN ?_ _ | refine bD ?_ | refine bA ?_ _)); refine blk_far ?_ NB253_297.out _; (with_reducible repeat (first | refine bN ?_ _ | refine bD ?_ | refine bA ?_ _)); refine blk_far ?_ NB253_297.out _; (with_reducible repeat (first | refine bN ?_ _ | refine bD ?_ | refine bA ?_ _)); refine blk_far ?_ NB253_296.out _; (with_reducible repeat (first | refine bN ?_ _ | refine bD ?_ | refine bA ?_ _)); refine blk_far ?_ NB253_296.out _; (with_reducible repeat (first | refine bN ?_ _ | refine bD ?_ | refine bA ?_ _)); refine blk_far ?_ NB253_296.out _; (with_reducible repeat (first | refine bN ?_ _ | refine bD ?_ | refine bA ?_ _)); refine blk_far ?_ NB253_296.out _; (with_reducible repeat (first | refine bN ?_ _ | refine bD ?_ | refine bA ?_ _)); refine blk_far ?_ NB253_296.out _; (with_reducible repeat (first | refine bN ?_ _ | refine bD ?_ | refine bA ?_ _)); refine blk_far ?_ NB253_296.out _; (with_reducible repeat (first | refine bN ?_ _ | refine bD ?_ | refine bA ?_ _)); exact BK253.out⟩
            have n8_ : Aside0 ((((((((((w62.setCell ⟨gb296, 0, none⟩ (.int .i64 t282)).setCell ⟨gb296, 1, none⟩ (.int .i64 t283)).setCell ⟨gb296, 2, none⟩ (.int .i64 t284)).setCell ⟨gb296, 3, none⟩ (.slice Ao69 t285.length co69)).setCell ⟨gb296, 4, none⟩ (.slice Ao70 t288.length co70)).setCell ⟨gb296, 5, none⟩ (.bool t291)).setCell ⟨gb297, 0, none⟩ (.int .i64 t292)).setCell ⟨gb297, 1, none⟩ (.int .i64 t293)).setCell ⟨gb297, 2, none⟩ (.int .i64 t294)).heap[gb280]? = some (.cells #[.int .i64 t266, .int .i64 t267, .int .i64 t268, .slice Ao54 t269.length co54, .slice Ao55 t272.length co55, .bool t275] 42 (0, 0))) := ⟨by (with_reducible repeat (first | refine bN ?_ _ | refine bD ?_ | refine bA ?_ _)); refine blk_far ?_ NB280_297.out _; (with_reducible repeat (first | refine bN ?_ _ | refine bD ?_ | refine bA ?_ _)); refine blk_far ?_ NB280_297.out _; (with_reducible repeat (first | refine bN ?_ _ | refine bD ?_ | refine bA ?_ _)); refine blk_far ?_ NB280_297.out _; (with_reducible repeat (first | refine bN ?_ _ | refine bD ?_ | refine bA ?_ _)); refine blk_far ?_ NB280_296.out _; (with_reducible repeat (first | refine bN ?_ _ | refine bD ?_ | refine bA ?_ _)); refine blk_far ?_ NB280_296.out _; (with_reducible repeat (first | refine bN ?_ _ | refine bD ?_ | refine bA ?_ _)); refine blk_far ?_ NB280_296.out _; (with_reducible repeat (first | refine bN ?_ _ | refine bD ?_ | refine bA ?_ _)); refine blk_far ?_ NB280_296.out _; (with_reducible repeat (first | refine bN ?_ _ | refine bD ?_ | refine bA ?_ _)); refine blk_far ?_ NB280_296.out _; (with_reducible repeat (first | refine bN ?_ _ | refine bD ?_ | refine bA ?_ _)); refine blk_far ?_ NB280_296.out _; (with_reducible repeat (first | refine bN ?_ _ | refine bD ?_ | refine bA ?_ _)); exact BK280.out⟩
            have n9_ : Aside0 ((((((((((w62.setCell ⟨gb296, 0, none⟩ (.int .i64 t282)).setCell ⟨gb296, 1, none⟩ (.int .i64 t283)).setCell ⟨gb296, 2, none⟩ (.int .i64 t284)).setCell ⟨gb296, 3, none⟩ (.slice Ao69 t285.length co69)).setCell ⟨gb296, 4, none⟩ (.slice Ao70 t288.length co70)).setCell ⟨gb296, 5, none⟩ (.bool t291)).setCell ⟨gb297, 0, none⟩ (.int .i64 t292)).setCell ⟨gb297, 1, none⟩ (.int .i64 t293)).setCell ⟨gb297, 2, none⟩ (.int .i64 t294)).heap[gb281]? = some (.cells #[.int .i64 t276, .int .i64 t277, .int .i64 t278] 52 (0, 0))) := ⟨by (with_reducible repeat (first | refine bN ?_ _ | refine bD ?_ | refine bA ?_ _)); refine blk_far ?_ NB281_297.out _; (with_reducible repeat (first | refine bN ?_ _ | refine bD ?_ | refine bA ?_ _)); refine blk_far ?_ NB281_297.out _; (with_reducible repeat (first | refine bN ?_ _ | refine bD ?_ | refine bA ?_ _)); refine blk_far ?_ NB281_297.out _; (with_reducible repeat (first | refine bN ?_ _ | refine bD ?_ | refine bA ?_ _)); refine blk_far ?_ NB281_296.out _; (with_reducible repeat (first | refine bN ?_ _ | refine bD ?_ | refine bA ?_ _)); refine blk_far ?_ NB281_296.out _; (with_reducible repeat (first | refine bN ?_ _ | refine bD ?_ | refine bA ?_ _)); refine blk_far ?_ NB281_296.out _; (with_reducible repeat (first | refine bN ?_ _ | refine bD ?_ | refine bA ?_ _)); refine blk_far ?_ NB281_296.out _; (with_reducible repeat (first | refine bN ?_ _ | refine bD ?_ | refine bA ?_ _)); refine blk_far ?_ NB281_296.out _; (with_reducible repeat (first | refine bN ?_ _ | refine bD ?_ | refine bA ?_ _)); refine blk_far ?_ NB281_296.out _; (with_reducible repeat (first | refine bN ?_ _ | refine bD ?_ | refine bA ?_ _)); exact BK281.out⟩
            have n10_ : Aside0 ((((((((((w62.setCell ⟨gb296, 0, none⟩ (.int .i64 t282)).setCell ⟨gb296, 1, none⟩ (.int .i64 t283)).setCell ⟨gb296, 2, none⟩ (.int .i64 t284)).setCell ⟨gb296, 3, none⟩ (.slice Ao69 t285.length co69)).setCell ⟨gb296, 4, none⟩ (.slice Ao70 t288.length co70)).setCell ⟨gb296, 5, none⟩ (.bool t291)).setCell ⟨gb297, 0, none⟩ (.int .i64 t292)).setCell ⟨gb297, 1, none⟩ (.int .i64 t293)).setCell ⟨gb297, 2, none⟩ (.int .i64 t294)).heap[gb296]? = some (.cells #[.int .i64 t282, .int .i64 t283, .int .i64 t284, .slice Ao69 t285.length co69, .slice Ao70 t288.length co70, .bool t291] 42 (0, 0))) := ⟨by (with_reducible repeat (first | refine bN ?_ _ | refine bD ?_ | refine bA ?_ _)); refine blk_far ?_ NB296_297.out _; (with_reducible repeat (first | refine bN ?_ _ | refine bD ?_ | refine bA ?_ _)); refine blk_far ?_ NB296_297.out _; (with_reducible repeat (first | refine bN ?_ _ | refine bD ?_ | refine bA ?_ _)); refine blk_far ?_ NB296_297.out _; (with_reducible repeat (first | refine bN ?_ _ | refine bD ?_ | refine bA ?_ _)); refine blk_put (cs := #[.int .i64 t282, .int .i64 t283, .int .i64 t284, .slice Ao69 t285.length co69, .slice Ao70 t288.length co70, .bool false]) ?_ 5 _ rfl; (with_reducible repeat (first | refine bN ?_ _ | refine bD ?_ | refine bA ?_ _)); refine blk_put (cs := #[.int .i64 t282, .int .i64 t283, .int .i64 t284, .slice Ao69 t285.length co69, .slice none 0 0, .bool false]) ?_ 4 _ rfl; (with_reducible repeat (first | refine bN ?_ _ | refine bD ?_ | refine bA ?_ _)); refine blk_put (cs := #[.int .i64 t282, .int .i64 t283, .int .i64 t284, .slice none 0 0, .slice none 0 0, .bool false]) ?_ 3 _ rfl; (with_reducible repeat (first | refine bN ?_ _ | refine bD ?_ | refine bA ?_ _)); refine blk_put (cs := #[.int .i64 t282, .int .i64 t283, .int .i64 0, .slice none 0 0, .slice none 0 0, .bool false]) ?_ 2 _ rfl; (with_reducible repeat (first | refine bN ?_ _ | refine bD ?_ | refine bA ?_ _)); refine blk_put (cs := #[.int .i64 t282, .int .i64 0, .int .i64 0, .slice none 0 0, .slice none 0 0, .bool false]) ?_ 1 _ rfl; (with_reducible repeat (first | refine bN ?_ _ | refine bD ?_ | refine bA ?_ _)); refine blk_put (cs := #[.int .i64 0, .int .i64 0, .int .i64 0, .slice none 0 0, .slice none 0 0, .bool false]) ?_ 0 _ rfl; (with_reducible repeat (first | refine bN ?_ _ | refine bD ?_ | refine bA ?_ _)); exact BK296.out⟩
            have n11_ : Aside0 ((((((((((w62.setCell ⟨gb296, 0, none⟩ (.int .i64 t282)).setCell ⟨gb296, 1, none⟩ (.int .i64 t283)).setCell ⟨gb296, 2, none⟩ (.int .i64 t284)).setCell ⟨gb296, 3, none⟩ (.slice Ao69 t285.length co69)).setCell ⟨gb296, 4, none⟩ (.slice Ao70 t288.length co70)).setCell ⟨gb296, 5, none⟩ (.bool t291)).setCell ⟨gb297, 0, none⟩ (.int .i64 t292)).setCell ⟨gb297, 1, none⟩ (.int .i64 t293)).setCell ⟨gb297, 2, none⟩ (.int .i64 t294)).heap[gb297]? = some (.cells #[.int .i64 t292, .int .i64 t293, .int .i64 t294] 52 (0, 0))) := ⟨by (with_reducible repeat (first | refine bN ?_ _ | refine bD ?_ | refine bA ?_ _)); refine blk_put (cs := #[.int .i64 t292, .int .i64 t293, .int .i64 0]) ?_ 2 _ rfl; (with_reducible repeat (first | refine bN ?_ _ | refine bD ?_ | refine bA ?_ _)); refine blk_put (cs := #[.int .i64 t292, .int .i64 0, .int .i64 0]) ?_ 1 _ rfl; (with_reducible repeat (first | refine bN ?_ _ | refine bD ?_ | refine bA ?_ _)); refine blk_put (cs := #[.int .i64 0, .int .i64 0, .int .i64 0]) ?_ 0 _ rfl; (with_reducible repeat (first | refine bN ?_ _ | refine bD ?_ | refine bA ?_ _)); refine blk_far ?_ NB297_296.out _; (with_reducible repeat (first | refine bN ?_ _ | refine bD ?_ | refine bA ?_ _)); refine blk_far ?_ NB297_296.out _; (with_reducible repeat (first | refine bN ?_ _ | refine bD ?_ | refine bA ?_ _)); refine blk_far ?_ NB297_296.out _; (with_reducible repeat (first | refine bN ?_ _ | refine bD ?_ | refine bA ?_ _)); refine blk_far ?_ NB297_296.out _; (with_reducible repeat (first | refine bN ?_ _ | refine bD ?_ | refine bA ?_ _)); refine blk_far ?_ NB297_296.out _; (with_reducible repeat (first | refine bN ?_ _ | refine bD ?_ | refine bA ?_ _)); refine blk_far ?_ NB297_296.out _; (with_reducible repeat (first | refine bN ?_ _ | refine bD ?_ | refine bA ?_ _)); exact BK297.out⟩
            have n12_ : Aside0 (Below w.heap.size w (((((((((w62.setCell ⟨gb296, 0, none⟩ (.int .i64 t282)).setCell ⟨gb296, 1, none⟩ (.int .i64 t283)).setCell ⟨gb296, 2, none⟩ (.int .i64 t284)).setCell ⟨gb296, 3, none⟩ (.slice Ao69 t285.length co69)).setCell ⟨gb296, 4, none⟩ (.slice Ao70 t288.length co70)).setCell ⟨gb296, 5, none⟩ (.bool t291)).setCell ⟨gb297, 0, none⟩ (.int .i64 t292)).setCell ⟨gb297, 1, none⟩ (.int .i64 t293)).setCell ⟨gb297, 2, none⟩ (.int .i64 t294))) := ⟨by repeat (first | (with_reducible first | exact HB.out | apply lA | apply lN | apply lD | refine lS ?_ GE251.out | refine lS ?_ GE253.out | refine lS ?_ GE280.out | refine lS ?_ GE281.out | refine lS ?_ GE296.out | refine lS ?_ GE297.out) | exact HB.out)⟩
            (try clear HO259)
            (try clear HO265)
            (try clear HO271)
            (try clear HO274)
            (try clear HO287)
            (try clear HO290)
            (try clear BK251)
            (try clear BK253)
            (try clear BK280)
            (try clear BK281)
            (try clear BK296)
            (try clear BK297)
            (try clear HB)
            generalize (((((((((w62.setCell ⟨gb296, 0, none⟩ (.int .i64 t282)).setCell ⟨gb296, 1, none⟩ (.int .i64 t283)).setCell ⟨gb296, 2, none⟩ (.int .i64 t284)).setCell ⟨gb296, 3, none⟩ (.slice Ao69 t285.length co69)).setCell ⟨gb296, 4, none⟩ (.slice Ao70 t288.length co70)).setCell ⟨gb296, 5, none⟩ (.bool t291)).setCell ⟨gb297, 0, none⟩ (.int .i64 t292)).setCell ⟨gb297, 1, none⟩ (.int .i64 t293)).setCell ⟨gb297, 2, none⟩ (.int .i64 t294)) = w76 at n0_ n1_ n2_ n3_ n4_ n5_ n6_ n7_ n8_ n9_ n10_ n11_ n12_ ⊢
            have HO259 := n0_
            have HO265 := n1_
            have HO271 := n2_
            have HO274 := n3_
            have HO287 := n4_
            have HO290 := n5_
            have BK251 := n6_
            have BK253 := n7_
            have BK280 := n8_
            have BK281 := n9_
            have BK296 := n10_
            have BK297 := n11_
            have HB := n12_
            clear n0_ n1_ n2_ n3_ n4_ n5_ n6_ n7_ n8_ n9_ n10_ n11_ n12_
            have n0_ := aaM (rrD HO259.out)
            have n1_ := aaM (rrD HO265.out)
            have n2_ := aaM (rrD HO271.out)
            have n3_ := aaM (rrD HO274.out)
            have n4_ := aaM (rrD HO287.out)
            have n5_ := aaM (rrD HO290.out)
            have n6_ := aaM (bD BK251.out)
            have n7_ := aaM (bD BK253.out)
            have n8_ := aaM (bD BK280.out)
            have n9_ := aaM (bD BK281.out)
            have n10_ := aaM (bD BK296.out)
            have n11_ := aaM (bD BK297.out)
            have n12_ := aaM (lD HB.out)
            clear HO259 HO265 HO271 HO274 HO287 HO290 BK251 BK253 BK280 BK281 BK296 BK297 HB
            have HO259 := n0_
            have HO265 := n1_
            have HO271 := n2_
            have HO274 := n3_
            have HO287 := n4_
            have HO290 := n5_
            have BK251 := n6_
            have BK253 := n7_
            have BK280 := n8_
            have BK281 := n9_
            have BK296 := n10_
            have BK297 := n11_
            have HB := n12_
            clear n0_ n1_ n2_ n3_ n4_ n5_ n6_ n7_ n8_ n9_ n10_ n11_ n12_
            refine start_ (n := 36) (S := fun w' => w'.cell? ⟨gb251, 0, none⟩ = some (.int .i64 a0_0) ∧ w'.cell? ⟨gb251, 1, none⟩ = some (.int .i64 a0_1) ∧ w'.cell? ⟨gb251, 2, none⟩ = some (.int .i64 a0_2) ∧ w'.cell? ⟨gb251, 3, none⟩ = some (.slice A0_3 l0_3.length c0_3) ∧ w'.cell? ⟨gb251, 4, none⟩ = some (.slice A0_4 l0_4.length c0_4) ∧ w'.cell? ⟨gb251, 5, none⟩ = some (.bool a0_5) ∧ w'.cell? ⟨gb253, 0, none⟩ = some (.int .i64 a0_0) ∧ w'.cell? ⟨gb253, 1, none⟩ = some (.int .i64 a0_1) ∧ w'.cell? ⟨gb253, 2, none⟩ = some (.int .i64 a0_2) ∧ w'.cell? ⟨gb253, 3, none⟩ = some (.slice Ao42 y257.length co42) ∧ w'.cell? ⟨gb253, 4, none⟩ = some (.slice Ao44 y263.length co44) ∧ w'.cell? ⟨gb253, 5, none⟩ = some (.bool a0_5) ∧ w'.cell? ⟨gb280, 0, none⟩ = some (.int .i64 t266) ∧ w'.cell? ⟨gb280, 1, none⟩ = some (.int .i64 t267) ∧ w'.cell? ⟨gb280, 2, none⟩ = some (.int .i64 t268) ∧ w'.cell? ⟨gb280, 3, none⟩ = some (.slice Ao54 t269.length co54) ∧ w'.cell? ⟨gb280, 4, none⟩ = some (.slice Ao55 t272.length co55) ∧ w'.cell? ⟨gb280, 5, none⟩ = some (.bool t275) ∧ w'.cell? ⟨gb296, 0, none⟩ = some (.int .i64 t282) ∧ w'.cell? ⟨gb296, 1, none⟩ = some (.int .i64 t283) ∧ w'.cell? ⟨gb296, 2, none⟩ = some (.int .i64 t284) ∧ w'.cell? ⟨gb296, 3, none⟩ = some (.slice Ao69 t285.length co69) ∧ w'.cell? ⟨gb296, 4, none⟩ = some (.slice Ao70 t288.length co70) ∧ w'.cell? ⟨gb296, 5, none⟩ = some (.bool t291) ∧ w'.cell? ⟨gb281, 0, none⟩ = some (.int .i64 t276) ∧ w'.cell? ⟨gb281, 1, none⟩ = some (.int .i64 t277) ∧ w'.cell? ⟨gb281, 2, none⟩ = some (.int .i64 t278) ∧ w'.cell? ⟨gb297, 0, none⟩ = some (.int .i64 t292) ∧ w'.cell? ⟨gb297, 1, none⟩ = some (.int .i64 t293) ∧ w'.cell? ⟨gb297, 2, none⟩ = some (.int .i64 t294)) (ds := []) #[false, false, false, false, false, false, false, false, false, false, false, false, false, false, false, false, false, false, false, false, false, false, false, false, false, false, false, false, false, false, false, false, false, false, false, false] (by kernel_rfl) rfl rfl ⟨(bC BK251.out 0).trans rfl, (bC BK251.out 1).trans rfl, (bC BK251.out 2).trans rfl, (bC BK251.out 3).trans rfl, (bC BK251.out 4).trans rfl, (bC BK251.out 5).trans rfl, (bC BK253.out 0).trans rfl, (bC BK253.out 1).trans rfl, (bC BK253.out 2).trans rfl, (bC BK253.out 3).trans rfl, (bC BK253.out 4).trans rfl, (bC BK253.out 5).trans rfl, (bC BK280.out 0).trans rfl, (bC BK280.out 1).trans rfl, (bC BK280.out 2).trans rfl, (bC BK280.out 3).trans rfl, (bC BK280.out 4).trans rfl, (bC BK280.out 5).trans rfl, (bC BK296.out 0).trans rfl, (bC BK296.out 1).trans rfl, (bC BK296.out 2).trans rfl, (bC BK296.out 3).trans rfl, (bC BK296.out 4).trans rfl, (bC BK296.out 5).trans rfl, (bC BK281.out 0).trans rfl, (bC BK281.out 1).trans rfl, (bC BK281.out 2).trans rfl, (bC BK297.out 0).trans rfl, (bC BK297.out 1).trans rfl, (bC BK297.out 2).trans rfl⟩ (fun hHeld => ?_); refine with_tabW hornbeamlaw21_SchedSteps.tab7 hornbeamlaw21_SchedSteps.bits7 (fun HT_ HW_ => ?_)
            generalize w76.drew = w77 at HO259 HO265 HO271 HO274 HO287 HO290 BK251 BK253 BK280 BK281 BK296 BK297 HB hHeld ⊢
            refine one_ (i := 0) (N := some 48) #[true, false, false, false, false, false, false, false, false, false, false, false, false, false, false, false, false, false, false, false, false, false, false, false, false, false, false, false, false, false, false, false, false, false, false, false] rfl rfl (one_of HT_.out (by kernel_rfl)) (by decide) (fun K hK => ?_)
            refine goes_ Try.func21 (by kernel_rfl) rfl #[] (by rfl) rfl rfl (by (try simp only [List.map_toArray, List.map_cons, List.map_nil]); first | done | rfl | (simp only [List.length_drop, List.length_take]; rfl)) ?_
            with_reducible refine (hornbeamlaw21_fixed.calls kj2  true _ A15.out).mono ?_
            rintro e w78 ⟨rfl, hb⟩
            refine ⟨_, rfl, ?_⟩
            have n0_ := aaM (rrB (by (with_reducible repeat (first | apply rrA | apply rrN | apply rrD)); exact HO259.out) hb)
            have n1_ := aaM (rrB (by (with_reducible repeat (first | apply rrA | apply rrN | apply rrD)); exact HO265.out) hb)
            have n2_ := aaM (rrB (by (with_reducible repeat (first | apply rrA | apply rrN | apply rrD)); exact HO271.out) hb)
            have n3_ := aaM (rrB (by (with_reducible repeat (first | apply rrA | apply rrN | apply rrD)); exact HO274.out) hb)
            have n4_ := aaM (rrB (by (with_reducible repeat (first | apply rrA | apply rrN | apply rrD)); exact HO287.out) hb)
            have n5_ := aaM (rrB (by (with_reducible repeat (first | apply rrA | apply rrN | apply rrD)); exact HO290.out) hb)
            have n6_ := aaM (bB (g := gb251) (o := .cells #[.int .i64 a0_0, .int .i64 a0_1, .int .i64 a0_2, .slice A0_3 l0_3.length c0_3, .slice A0_4 l0_4.length c0_4, .bool a0_5] 42 (0, 0)) (by (with_reducible repeat (first | refine bN ?_ _ | refine bD ?_ | refine bA ?_ _)); exact BK251.out) hb)
            have n7_ := aaM (bB (g := gb253) (o := .cells #[.int .i64 a0_0, .int .i64 a0_1, .int .i64 a0_2, .slice Ao42 y257.length co42, .slice Ao44 y263.length co44, .bool a0_5] 42 (0, 0)) (by (with_reducible repeat (first | refine bN ?_ _ | refine bD ?_ | refine bA ?_ _)); exact BK253.out) hb)
            have n8_ := aaM (bB (g := gb280) (o := .cells #[.int .i64 t266, .int .i64 t267, .int .i64 t268, .slice Ao54 t269.length co54, .slice Ao55 t272.length co55, .bool t275] 42 (0, 0)) (by (with_reducible repeat (first | refine bN ?_ _ | refine bD ?_ | refine bA ?_ _)); exact BK280.out) hb)
            have n9_ := aaM (bB (g := gb281) (o := .cells #[.int .i64 t276, .int .i64 t277, .int .i64 t278] 52 (0, 0)) (by (with_reducible repeat (first | refine bN ?_ _ | refine bD ?_ | refine bA ?_ _)); exact BK281.out) hb)
            have n10_ := aaM (bB (g := gb296) (o := .cells #[.int .i64 t282, .int .i64 t283, .int .i64 t284, .slice Ao69 t285.length co69, .slice Ao70 t288.length co70, .bool t291] 42 (0, 0)) (by (with_reducible repeat (first | refine bN ?_ _ | refine bD ?_ | refine bA ?_ _)); exact BK296.out) hb)
            have n11_ := aaM (bB (g := gb297) (o := .cells #[.int .i64 t292, .int .i64 t293, .int .i64 t294] 52 (0, 0)) (by (with_reducible repeat (first | refine bN ?_ _ | refine bD ?_ | refine bA ?_ _)); exact BK297.out) hb)
            have n12_ := aaM (lP (by repeat (first | (with_reducible first | exact HB.out | apply lA | apply lN | apply lD | refine lS ?_ GE251.out | refine lS ?_ GE253.out | refine lS ?_ GE280.out | refine lS ?_ GE281.out | refine lS ?_ GE296.out | refine lS ?_ GE297.out) | exact HB.out)) hb)
            clear HO259 HO265 HO271 HO274 HO287 HO290 BK251 BK253 BK280 BK281 BK296 BK297 HB
            have HO259 := n0_
            have HO265 := n1_
            have HO271 := n2_
            have HO274 := n3_
            have HO287 := n4_
            have HO290 := n5_
            have BK251 := n6_
            have BK253 := n7_
            have BK280 := n8_
            have BK281 := n9_
            have BK296 := n10_
            have BK297 := n11_
            have HB := n12_
            clear n0_ n1_ n2_ n3_ n4_ n5_ n6_ n7_ n8_ n9_ n10_ n11_ n12_
            (try clear hb)
            (try clear hb2)
            (try clear hk)
            (try clear hi)
            refine hK.out _ _ ⟨(bC BK251.out 0).trans rfl, (bC BK251.out 1).trans rfl, (bC BK251.out 2).trans rfl, (bC BK251.out 3).trans rfl, (bC BK251.out 4).trans rfl, (bC BK251.out 5).trans rfl, (bC BK253.out 0).trans rfl, (bC BK253.out 1).trans rfl, (bC BK253.out 2).trans rfl, (bC BK253.out 3).trans rfl, (bC BK253.out 4).trans rfl, (bC BK253.out 5).trans rfl, (bC BK280.out 0).trans rfl, (bC BK280.out 1).trans rfl, (bC BK280.out 2).trans rfl, (bC BK280.out 3).trans rfl, (bC BK280.out 4).trans rfl, (bC BK280.out 5).trans rfl, (bC BK296.out 0).trans rfl, (bC BK296.out 1).trans rfl, (bC BK296.out 2).trans rfl, (bC BK296.out 3).trans rfl, (bC BK296.out 4).trans rfl, (bC BK296.out 5).trans rfl, (bC BK281.out 0).trans rfl, (bC BK281.out 1).trans rfl, (bC BK281.out 2).trans rfl, (bC BK297.out 0).trans rfl, (bC BK297.out 1).trans rfl, (bC BK297.out 2).trans rfl⟩ (fun hHeld => ?_)
            clear hK K
            refine norm_ (a' := ?_) ?_ ?_
            rotate_left
            ·show Act.put _ (some 48) _ = _
             simp only [Act.put, ssB, ssZ, ssS, i64_w, i32_w]
             rfl
            refine pure_ (i := 1) (N := some 49) (v := ?_) (a' := ?_) #[true, true, false, false, false, false, false, false, false, false, false, false, false, false, false, false, false, false, false, false, false, false, false, false, false, false, false, false, false, false, false, false, false, false, false, false] rfl rfl (any_of HT_.out (by kernel_rfl)) (fun _ _ _ h => h) (Or.inl ⟨by rfl, ?_⟩) ?_ ?_
            rotate_left
            ·intro w'
             go_simp
             with_reducible rfl
            rotate_left
            ·simp only [Act.put, ssB, ssZ, ssS, i64_w, i32_w]
             rfl
            refine take_ (i := 2) (N := some 50) (v := ?_) (a' := ?_) #[true, true, true, false, false, false, false, false, false, false, false, false, false, false, false, false, false, false, false, false, false, false, false, false, false, false, false, false, false, false, false, false, false, false, false, false] rfl rfl (take_ofW HT_.out HW_.out (by kernel_rfl)) (fun _ _ _ h => h) (Or.inl ⟨by rfl, ?_⟩) hHeld ?_ ?_
            rotate_left
            ·rintro w' ⟨s0, s1, s2, s3, s4, s5, s6, s7, s8, s9, s10, s11, s12, s13, s14, s15, s16, s17, s18, s19, s20, s21, s22, s23, s24, s25, s26, s27, s28, s29⟩
             go_simp
             with_reducible rfl
            rotate_left
            ·simp only [Act.put, ssB, ssZ, ssS, i64_w, i32_w]
             rfl
            refine take_ (i := 4) (N := some 52) (v := ?_) (a' := ?_) #[true, true, true, false, true, false, false, false, false, false, false, false, false, false, false, false, false, false, false, false, false, false, false, false, false, false, false, false, false, false, false, false, false, false, false, false] rfl rfl (take_ofW HT_.out HW_.out (by kernel_rfl)) (fun _ _ _ h => h) (Or.inl ⟨by rfl, ?_⟩) hHeld ?_ ?_
            rotate_left
            ·rintro w' ⟨s0, s1, s2, s3, s4, s5, s6, s7, s8, s9, s10, s11, s12, s13, s14, s15, s16, s17, s18, s19, s20, s21, s22, s23, s24, s25, s26, s27, s28, s29⟩
             go_simp
             with_reducible rfl
            rotate_left
            ·simp only [Act.put, ssB, ssZ, ssS, i64_w, i32_w]
             rfl
            refine one_ (i := 3) (N := some 51) #[true, true, true, true, true, false, false, false, false, false, false, false, false, false, false, false, false, false, false, false, false, false, false, false, false, false, false, false, false, false, false, false, false, false, false, false] rfl rfl (one_of HT_.out (by kernel_rfl)) (by decide) (fun K hK => ?_)
            refine goes_ Try.func35 (by kernel_rfl) rfl #[.agg #[.int .i64 a0_0, .int .i64 a0_1, .int .i64 a0_2, .slice A0_3 l0_3.length c0_3, .slice A0_4 l0_4.length c0_4, .bool a0_5]] (by rfl) rfl rfl (by (try simp only [List.map_toArray, List.map_cons, List.map_nil]); first | done | rfl | (simp only [List.length_drop, List.length_take]; rfl)) ?_
            with_reducible refine (sched_May.calls kj2 a0_0 a0_1 a0_2 _ _ l0_3 _ _ l0_4 a0_5 t299 _ ?side1 ?side2 ?side3 ?side4 A17.out).mono ?_
            (case side1 => repeat (first | exact (ccB HR0_3.out HB.out) | (with_reducible refine ccA ?_ _) | (with_reducible refine ccN ?_ _) | (with_reducible refine ccD ?_)))
            (case side2 => exact HC0_3.out)
            (case side3 => repeat (first | exact (ccB HR0_4.out HB.out) | (with_reducible refine ccA ?_ _) | (with_reducible refine ccN ?_ _) | (with_reducible refine ccD ?_)))
            (case side4 => exact HC0_4.out)
            rintro e w79 ⟨rfl, hb⟩
            refine ⟨_, rfl, ?_⟩
            have n0_ := aaM (rrB (by (with_reducible repeat (first | apply rrA | apply rrN | apply rrD)); exact HO259.out) hb)
            have n1_ := aaM (rrB (by (with_reducible repeat (first | apply rrA | apply rrN | apply rrD)); exact HO265.out) hb)
            have n2_ := aaM (rrB (by (with_reducible repeat (first | apply rrA | apply rrN | apply rrD)); exact HO271.out) hb)
            have n3_ := aaM (rrB (by (with_reducible repeat (first | apply rrA | apply rrN | apply rrD)); exact HO274.out) hb)
            have n4_ := aaM (rrB (by (with_reducible repeat (first | apply rrA | apply rrN | apply rrD)); exact HO287.out) hb)
            have n5_ := aaM (rrB (by (with_reducible repeat (first | apply rrA | apply rrN | apply rrD)); exact HO290.out) hb)
            have n6_ := aaM (bB (g := gb251) (o := .cells #[.int .i64 a0_0, .int .i64 a0_1, .int .i64 a0_2, .slice A0_3 l0_3.length c0_3, .slice A0_4 l0_4.length c0_4, .bool a0_5] 42 (0, 0)) (by (with_reducible repeat (first | refine bN ?_ _ | refine bD ?_ | refine bA ?_ _)); exact BK251.out) hb)
            have n7_ := aaM (bB (g := gb253) (o := .cells #[.int .i64 a0_0, .int .i64 a0_1, .int .i64 a0_2, .slice Ao42 y257.length co42, .slice Ao44 y263.length co44, .bool a0_5] 42 (0, 0)) (by (with_reducible repeat (first | refine bN ?_ _ | refine bD ?_ | refine bA ?_ _)); exact BK253.out) hb)
            have n8_ := aaM (bB (g := gb280) (o := .cells #[.int .i64 t266, .int .i64 t267, .int .i64 t268, .slice Ao54 t269.length co54, .slice Ao55 t272.length co55, .bool t275] 42 (0, 0)) (by (with_reducible repeat (first | refine bN ?_ _ | refine bD ?_ | refine bA ?_ _)); exact BK280.out) hb)
            have n9_ := aaM (bB (g := gb281) (o := .cells #[.int .i64 t276, .int .i64 t277, .int .i64 t278] 52 (0, 0)) (by (with_reducible repeat (first | refine bN ?_ _ | refine bD ?_ | refine bA ?_ _)); exact BK281.out) hb)
            have n10_ := aaM (bB (g := gb296) (o := .cells #[.int .i64 t282, .int .i64 t283, .int .i64 t284, .slice Ao69 t285.length co69, .slice Ao70 t288.length co70, .bool t291] 42 (0, 0)) (by (with_reducible repeat (first | refine bN ?_ _ | refine bD ?_ | refine bA ?_ _)); exact BK296.out) hb)
            have n11_ := aaM (bB (g := gb297) (o := .cells #[.int .i64 t292, .int .i64 t293, .int .i64 t294] 52 (0, 0)) (by (with_reducible repeat (first | refine bN ?_ _ | refine bD ?_ | refine bA ?_ _)); exact BK297.out) hb)
            have n12_ := aaM (lP (by repeat (first | (with_reducible first | exact HB.out | apply lA | apply lN | apply lD | refine lS ?_ GE251.out | refine lS ?_ GE253.out | refine lS ?_ GE280.out | refine lS ?_ GE281.out | refine lS ?_ GE296.out | refine lS ?_ GE297.out) | exact HB.out)) hb)
            clear HO259 HO265 HO271 HO274 HO287 HO290 BK251 BK253 BK280 BK281 BK296 BK297 HB
            have HO259 := n0_
            have HO265 := n1_
            have HO271 := n2_
            have HO274 := n3_
            have HO287 := n4_
            have HO290 := n5_
            have BK251 := n6_
            have BK253 := n7_
            have BK280 := n8_
            have BK281 := n9_
            have BK296 := n10_
            have BK297 := n11_
            have HB := n12_
            clear n0_ n1_ n2_ n3_ n4_ n5_ n6_ n7_ n8_ n9_ n10_ n11_ n12_
            (try clear hb)
            (try clear hb2)
            (try clear hk)
            (try clear hi)
            refine hK.out _ _ ⟨(bC BK251.out 0).trans rfl, (bC BK251.out 1).trans rfl, (bC BK251.out 2).trans rfl, (bC BK251.out 3).trans rfl, (bC BK251.out 4).trans rfl, (bC BK251.out 5).trans rfl, (bC BK253.out 0).trans rfl, (bC BK253.out 1).trans rfl, (bC BK253.out 2).trans rfl, (bC BK253.out 3).trans rfl, (bC BK253.out 4).trans rfl, (bC BK253.out 5).trans rfl, (bC BK280.out 0).trans rfl, (bC BK280.out 1).trans rfl, (bC BK280.out 2).trans rfl, (bC BK280.out 3).trans rfl, (bC BK280.out 4).trans rfl, (bC BK280.out 5).trans rfl, (bC BK296.out 0).trans rfl, (bC BK296.out 1).trans rfl, (bC BK296.out 2).trans rfl, (bC BK296.out 3).trans rfl, (bC BK296.out 4).trans rfl, (bC BK296.out 5).trans rfl, (bC BK281.out 0).trans rfl, (bC BK281.out 1).trans rfl, (bC BK281.out 2).trans rfl, (bC BK297.out 0).trans rfl, (bC BK297.out 1).trans rfl, (bC BK297.out 2).trans rfl⟩ (fun hHeld => ?_)
            clear hK K
            refine norm_ (a' := ?_) ?_ ?_
            rotate_left
            ·show Act.put _ (some 51) _ = _
             simp only [Act.put, ssB, ssZ, ssS, i64_w, i32_w]
             rfl
            refine one_ (i := 5) (N := some 53) #[true, true, true, true, true, true, false, false, false, false, false, false, false, false, false, false, false, false, false, false, false, false, false, false, false, false, false, false, false, false, false, false, false, false, false, false] rfl rfl (one_of HT_.out (by kernel_rfl)) (by decide) (fun K hK => ?_)
            refine goes_ Try.func38 (by kernel_rfl) rfl #[.agg #[.int .i64 a0_0, .int .i64 a0_1, .int .i64 a0_2, .slice Ao42 y257.length co42, .slice Ao44 y263.length co44, .bool a0_5]] (by rfl) rfl rfl (by (try simp only [List.map_toArray, List.map_cons, List.map_nil]); first | done | rfl | (simp only [List.length_drop, List.length_take]; rfl)) ?_
            with_reducible refine (hornbeamref21_May.calls kj2 a0_0 a0_1 a0_2 _ _ y257 _ _ y263 a0_5 t300 _ ?side1 ?side2 ?side3 ?side4 A18.out).mono ?_
            (case side1 => repeat (first | exact (Kd.R_reads' HO259.out).2.2 | (with_reducible refine ccA ?_ _) | (with_reducible refine ccN ?_ _) | (with_reducible refine ccD ?_)))
            (case side2 => exact (Kd.R_reads' HO259.out).2.1)
            (case side3 => repeat (first | exact (Kd.R_reads' HO265.out).2.2 | (with_reducible refine ccA ?_ _) | (with_reducible refine ccN ?_ _) | (with_reducible refine ccD ?_)))
            (case side4 => exact (Kd.R_reads' HO265.out).2.1)
            rintro e w80 ⟨rfl, hb⟩
            refine ⟨_, rfl, ?_⟩
            have n0_ := aaM (rrB (by (with_reducible repeat (first | apply rrA | apply rrN | apply rrD)); exact HO259.out) hb)
            have n1_ := aaM (rrB (by (with_reducible repeat (first | apply rrA | apply rrN | apply rrD)); exact HO265.out) hb)
            have n2_ := aaM (rrB (by (with_reducible repeat (first | apply rrA | apply rrN | apply rrD)); exact HO271.out) hb)
            have n3_ := aaM (rrB (by (with_reducible repeat (first | apply rrA | apply rrN | apply rrD)); exact HO274.out) hb)
            have n4_ := aaM (rrB (by (with_reducible repeat (first | apply rrA | apply rrN | apply rrD)); exact HO287.out) hb)
            have n5_ := aaM (rrB (by (with_reducible repeat (first | apply rrA | apply rrN | apply rrD)); exact HO290.out) hb)
            have n6_ := aaM (bB (g := gb251) (o := .cells #[.int .i64 a0_0, .int .i64 a0_1, .int .i64 a0_2, .slice A0_3 l0_3.length c0_3, .slice A0_4 l0_4.length c0_4, .bool a0_5] 42 (0, 0)) (by (with_reducible repeat (first | refine bN ?_ _ | refine bD ?_ | refine bA ?_ _)); exact BK251.out) hb)
            have n7_ := aaM (bB (g := gb253) (o := .cells #[.int .i64 a0_0, .int .i64 a0_1, .int .i64 a0_2, .slice Ao42 y257.length co42, .slice Ao44 y263.length co44, .bool a0_5] 42 (0, 0)) (by (with_reducible repeat (first | refine bN ?_ _ | refine bD ?_ | refine bA ?_ _)); exact BK253.out) hb)
            have n8_ := aaM (bB (g := gb280) (o := .cells #[.int .i64 t266, .int .i64 t267, .int .i64 t268, .slice Ao54 t269.length co54, .slice Ao55 t272.length co55, .bool t275] 42 (0, 0)) (by (with_reducible repeat (first | refine bN ?_ _ | refine bD ?_ | refine bA ?_ _)); exact BK280.out) hb)
            have n9_ := aaM (bB (g := gb281) (o := .cells #[.int .i64 t276, .int .i64 t277, .int .i64 t278] 52 (0, 0)) (by (with_reducible repeat (first | refine bN ?_ _ | refine bD ?_ | refine bA ?_ _)); exact BK281.out) hb)
            have n10_ := aaM (bB (g := gb296) (o := .cells #[.int .i64 t282, .int .i64 t283, .int .i64 t284, .slice Ao69 t285.length co69, .slice Ao70 t288.length co70, .bool t291] 42 (0, 0)) (by (with_reducible repeat (first | refine bN ?_ _ | refine bD ?_ | refine bA ?_ _)); exact BK296.out) hb)
            have n11_ := aaM (bB (g := gb297) (o := .cells #[.int .i64 t292, .int .i64 t293, .int .i64 t294] 52 (0, 0)) (by (with_reducible repeat (first | refine bN ?_ _ | refine bD ?_ | refine bA ?_ _)); exact BK297.out) hb)
            have n12_ := aaM (lP (by repeat (first | (with_reducible first | exact HB.out | apply lA | apply lN | apply lD | refine lS ?_ GE251.out | refine lS ?_ GE253.out | refine lS ?_ GE280.out | refine lS ?_ GE281.out | refine lS ?_ GE296.out | refine lS ?_ GE297.out) | exact HB.out)) hb)
            clear HO259 HO265 HO271 HO274 HO287 HO290 BK251 BK253 BK280 BK281 BK296 BK297 HB
            have HO259 := n0_
            have HO265 := n1_
            have HO271 := n2_
            have HO274 := n3_
            have HO287 := n4_
            have HO290 := n5_
            have BK251 := n6_
            have BK253 := n7_
            have BK280 := n8_
            have BK281 := n9_
            have BK296 := n10_
            have BK297 := n11_
            have HB := n12_
            clear n0_ n1_ n2_ n3_ n4_ n5_ n6_ n7_ n8_ n9_ n10_ n11_ n12_
            (try clear hb)
            (try clear hb2)
            (try clear hk)
            (try clear hi)
            refine hK.out _ _ ⟨(bC BK251.out 0).trans rfl, (bC BK251.out 1).trans rfl, (bC BK251.out 2).trans rfl, (bC BK251.out 3).trans rfl, (bC BK251.out 4).trans rfl, (bC BK251.out 5).trans rfl, (bC BK253.out 0).trans rfl, (bC BK253.out 1).trans rfl, (bC BK253.out 2).trans rfl, (bC BK253.out 3).trans rfl, (bC BK253.out 4).trans rfl, (bC BK253.out 5).trans rfl, (bC BK280.out 0).trans rfl, (bC BK280.out 1).trans rfl, (bC BK280.out 2).trans rfl, (bC BK280.out 3).trans rfl, (bC BK280.out 4).trans rfl, (bC BK280.out 5).trans rfl, (bC BK296.out 0).trans rfl, (bC BK296.out 1).trans rfl, (bC BK296.out 2).trans rfl, (bC BK296.out 3).trans rfl, (bC BK296.out 4).trans rfl, (bC BK296.out 5).trans rfl, (bC BK281.out 0).trans rfl, (bC BK281.out 1).trans rfl, (bC BK281.out 2).trans rfl, (bC BK297.out 0).trans rfl, (bC BK297.out 1).trans rfl, (bC BK297.out 2).trans rfl⟩ (fun hHeld => ?_)
            clear hK K
            refine norm_ (a' := ?_) ?_ ?_
            rotate_left
            ·show Act.put _ (some 53) _ = _
             simp only [Act.put, ssB, ssZ, ssS, i64_w, i32_w]
             rfl
            refine pure_ (i := 6) (N := some 54) (v := ?_) (a' := ?_) #[true, true, true, true, true, true, true, false, false, false, false, false, false, false, false, false, false, false, false, false, false, false, false, false, false, false, false, false, false, false, false, false, false, false, false, false] rfl rfl (any_of HT_.out (by kernel_rfl)) (fun _ _ _ h => h) (Or.inl ⟨by rfl, ?_⟩) ?_ ?_
            rotate_left
            ·intro w'
             go_simp
             with_reducible rfl
            rotate_left
            ·simp only [Act.put, ssB, ssZ, ssS, i64_w, i32_w]
             rfl
            refine pure_ (i := 7) (N := some 55) (v := ?_) (a' := ?_) #[true, true, true, true, true, true, true, true, false, false, false, false, false, false, false, false, false, false, false, false, false, false, false, false, false, false, false, false, false, false, false, false, false, false, false, false] rfl rfl (any_of HT_.out (by kernel_rfl)) (fun _ _ _ h => h) (Or.inl ⟨by rfl, ?_⟩) ?_ ?_
            rotate_left
            ·intro w'
             go_simp
             with_reducible rfl
            rotate_left
            ·simp only [Act.put, ssB, ssZ, ssS, i64_w, i32_w]
             rfl
            refine pure_ (i := 8) (N := some 56) (v := ?_) (a' := ?_) #[true, true, true, true, true, true, true, true, true, false, false, false, false, false, false, false, false, false, false, false, false, false, false, false, false, false, false, false, false, false, false, false, false, false, false, false] rfl rfl (any_of HT_.out (by kernel_rfl)) (fun _ _ _ h => h) (Or.inl ⟨by rfl, ?_⟩) ?_ ?_
            rotate_left
            ·intro w'
             go_simp
             with_reducible rfl
            rotate_left
            ·simp only [Act.put, ssB, ssZ, ssS, i64_w, i32_w]
             rfl
            refine take_ (i := 9) (N := some 57) (v := ?_) (a' := ?_) #[true, true, true, true, true, true, true, true, true, true, false, false, false, false, false, false, false, false, false, false, false, false, false, false, false, false, false, false, false, false, false, false, false, false, false, false] rfl rfl (take_ofW HT_.out HW_.out (by kernel_rfl)) (fun _ _ _ h => h) (Or.inl ⟨by rfl, ?_⟩) hHeld ?_ ?_
            rotate_left
            ·rintro w' ⟨s0, s1, s2, s3, s4, s5, s6, s7, s8, s9, s10, s11, s12, s13, s14, s15, s16, s17, s18, s19, s20, s21, s22, s23, s24, s25, s26, s27, s28, s29⟩
             go_simp
             with_reducible rfl
            rotate_left
            ·simp only [Act.put, ssB, ssZ, ssS, i64_w, i32_w]
             rfl
            refine take_ (i := 11) (N := some 59) (v := ?_) (a' := ?_) #[true, true, true, true, true, true, true, true, true, true, false, true, false, false, false, false, false, false, false, false, false, false, false, false, false, false, false, false, false, false, false, false, false, false, false, false] rfl rfl (take_ofW HT_.out HW_.out (by kernel_rfl)) (fun _ _ _ h => h) (Or.inl ⟨by rfl, ?_⟩) hHeld ?_ ?_
            rotate_left
            ·rintro w' ⟨s0, s1, s2, s3, s4, s5, s6, s7, s8, s9, s10, s11, s12, s13, s14, s15, s16, s17, s18, s19, s20, s21, s22, s23, s24, s25, s26, s27, s28, s29⟩
             go_simp
             with_reducible rfl
            rotate_left
            ·simp only [Act.put, ssB, ssZ, ssS, i64_w, i32_w]
             rfl
            refine one_ (i := 10) (N := some 58) #[true, true, true, true, true, true, true, true, true, true, true, true, false, false, false, false, false, false, false, false, false, false, false, false, false, false, false, false, false, false, false, false, false, false, false, false] rfl rfl (one_of HT_.out (by kernel_rfl)) (by decide) (fun K hK => ?_)
            refine goes_ Try.func34 (by kernel_rfl) rfl #[.agg #[.int .i64 a0_0, .int .i64 a0_1, .int .i64 a0_2, .slice A0_3 l0_3.length c0_3, .slice A0_4 l0_4.length c0_4, .bool a0_5]] (by rfl) rfl rfl (by (try simp only [List.map_toArray, List.map_cons, List.map_nil]); first | done | rfl | (simp only [List.length_drop, List.length_take]; rfl)) ?_
            with_reducible refine (sched_Ready.calls kj2 a0_0 a0_1 a0_2 _ _ l0_3 _ _ l0_4 a0_5 t301 _ ?side1 ?side2 ?side3 ?side4 A20.out).mono ?_
            (case side1 => repeat (first | exact (ccB HR0_3.out HB.out) | (with_reducible refine ccA ?_ _) | (with_reducible refine ccN ?_ _) | (with_reducible refine ccD ?_)))
            (case side2 => exact HC0_3.out)
            (case side3 => repeat (first | exact (ccB HR0_4.out HB.out) | (with_reducible refine ccA ?_ _) | (with_reducible refine ccN ?_ _) | (with_reducible refine ccD ?_)))
            (case side4 => exact HC0_4.out)
            rintro e w81 ⟨v302, rfl, ho0, hb⟩
            refine ⟨_, rfl, ?_⟩
            have n0_ := aaM (Kd.R_elder' (by (with_reducible repeat (first | apply rrA | apply rrN | apply rrD)); exact HO259.out) (Kd.R_base ho0) hb)
            have n1_ := aaM (rrB (by (with_reducible repeat (first | apply rrA | apply rrN | apply rrD)); exact HO265.out) hb)
            have n2_ := aaM (Kd.R_elder' (by (with_reducible repeat (first | apply rrA | apply rrN | apply rrD)); exact HO271.out) (Kd.R_base ho0) hb)
            have n3_ := aaM (rrB (by (with_reducible repeat (first | apply rrA | apply rrN | apply rrD)); exact HO274.out) hb)
            have n4_ := aaM (Kd.R_elder' (by (with_reducible repeat (first | apply rrA | apply rrN | apply rrD)); exact HO287.out) (Kd.R_base ho0) hb)
            have n5_ := aaM (rrB (by (with_reducible repeat (first | apply rrA | apply rrN | apply rrD)); exact HO290.out) hb)
            have n6_ := aaM (Kd.R_lower (Kd.R_new' (Kd.R_new' (Kd.R_new' ho0 (Kd.R_lt (by (with_reducible repeat (first | apply rrA | apply rrN | apply rrD)); exact HO259.out))) (Kd.R_lt (by (with_reducible repeat (first | apply rrA | apply rrN | apply rrD)); exact HO271.out))) (Kd.R_lt (by (with_reducible repeat (first | apply rrA | apply rrN | apply rrD)); exact HO287.out))) (lZ (by repeat (first | (with_reducible first | exact HB.out | apply lA | apply lN | apply lD | refine lS ?_ GE251.out | refine lS ?_ GE253.out | refine lS ?_ GE280.out | refine lS ?_ GE281.out | refine lS ?_ GE296.out | refine lS ?_ GE297.out) | exact HB.out))))
            have n7_ := aaM (bB (g := gb251) (o := .cells #[.int .i64 a0_0, .int .i64 a0_1, .int .i64 a0_2, .slice A0_3 l0_3.length c0_3, .slice A0_4 l0_4.length c0_4, .bool a0_5] 42 (0, 0)) (by (with_reducible repeat (first | refine bN ?_ _ | refine bD ?_ | refine bA ?_ _)); exact BK251.out) hb)
            have n8_ := aaM (bB (g := gb253) (o := .cells #[.int .i64 a0_0, .int .i64 a0_1, .int .i64 a0_2, .slice Ao42 y257.length co42, .slice Ao44 y263.length co44, .bool a0_5] 42 (0, 0)) (by (with_reducible repeat (first | refine bN ?_ _ | refine bD ?_ | refine bA ?_ _)); exact BK253.out) hb)
            have n9_ := aaM (bB (g := gb280) (o := .cells #[.int .i64 t266, .int .i64 t267, .int .i64 t268, .slice Ao54 t269.length co54, .slice Ao55 t272.length co55, .bool t275] 42 (0, 0)) (by (with_reducible repeat (first | refine bN ?_ _ | refine bD ?_ | refine bA ?_ _)); exact BK280.out) hb)
            have n10_ := aaM (bB (g := gb281) (o := .cells #[.int .i64 t276, .int .i64 t277, .int .i64 t278] 52 (0, 0)) (by (with_reducible repeat (first | refine bN ?_ _ | refine bD ?_ | refine bA ?_ _)); exact BK281.out) hb)
            have n11_ := aaM (bB (g := gb296) (o := .cells #[.int .i64 t282, .int .i64 t283, .int .i64 t284, .slice Ao69 t285.length co69, .slice Ao70 t288.length co70, .bool t291] 42 (0, 0)) (by (with_reducible repeat (first | refine bN ?_ _ | refine bD ?_ | refine bA ?_ _)); exact BK296.out) hb)
            have n12_ := aaM (bB (g := gb297) (o := .cells #[.int .i64 t292, .int .i64 t293, .int .i64 t294] 52 (0, 0)) (by (with_reducible repeat (first | refine bN ?_ _ | refine bD ?_ | refine bA ?_ _)); exact BK297.out) hb)
            have n13_ := aaM (lP (by repeat (first | (with_reducible first | exact HB.out | apply lA | apply lN | apply lD | refine lS ?_ GE251.out | refine lS ?_ GE253.out | refine lS ?_ GE280.out | refine lS ?_ GE281.out | refine lS ?_ GE296.out | refine lS ?_ GE297.out) | exact HB.out)) hb)
            clear HO259 HO265 HO271 HO274 HO287 HO290 BK251 BK253 BK280 BK281 BK296 BK297 HB
            have HO259 := n0_
            have HO265 := n1_
            have HO271 := n2_
            have HO274 := n3_
            have HO287 := n4_
            have HO290 := n5_
            have HO303 := n6_
            have BK251 := n7_
            have BK253 := n8_
            have BK280 := n9_
            have BK281 := n10_
            have BK296 := n11_
            have BK297 := n12_
            have HB := n13_
            clear n0_ n1_ n2_ n3_ n4_ n5_ n6_ n7_ n8_ n9_ n10_ n11_ n12_ n13_
            (try clear hb)
            (try clear hb2)
            (try clear hk)
            (try clear hi)
            (try clear ho0)
            refine hK.out _ _ ⟨(bC BK251.out 0).trans rfl, (bC BK251.out 1).trans rfl, (bC BK251.out 2).trans rfl, (bC BK251.out 3).trans rfl, (bC BK251.out 4).trans rfl, (bC BK251.out 5).trans rfl, (bC BK253.out 0).trans rfl, (bC BK253.out 1).trans rfl, (bC BK253.out 2).trans rfl, (bC BK253.out 3).trans rfl, (bC BK253.out 4).trans rfl, (bC BK253.out 5).trans rfl, (bC BK280.out 0).trans rfl, (bC BK280.out 1).trans rfl, (bC BK280.out 2).trans rfl, (bC BK280.out 3).trans rfl, (bC BK280.out 4).trans rfl, (bC BK280.out 5).trans rfl, (bC BK296.out 0).trans rfl, (bC BK296.out 1).trans rfl, (bC BK296.out 2).trans rfl, (bC BK296.out 3).trans rfl, (bC BK296.out 4).trans rfl, (bC BK296.out 5).trans rfl, (bC BK281.out 0).trans rfl, (bC BK281.out 1).trans rfl, (bC BK281.out 2).trans rfl, (bC BK297.out 0).trans rfl, (bC BK297.out 1).trans rfl, (bC BK297.out 2).trans rfl⟩ (fun hHeld => ?_)
            clear hK K
            refine norm_ (a' := ?_) ?_ ?_
            rotate_left
            ·show Act.put _ (some 58) _ = _
             simp only [Act.put, ssB, ssZ, ssS, i64_w, i32_w]
             rfl
            refine one_ (i := 12) (N := some 60) #[true, true, true, true, true, true, true, true, true, true, true, true, true, false, false, false, false, false, false, false, false, false, false, false, false, false, false, false, false, false, false, false, false, false, false, false] rfl rfl (one_of HT_.out (by kernel_rfl)) (by decide) (fun K hK => ?_)
            refine goes_ Try.func40 (by kernel_rfl) rfl #[.agg #[.int .i64 a0_0, .int .i64 a0_1, .int .i64 a0_2, .slice Ao42 y257.length co42, .slice Ao44 y263.length co44, .bool a0_5]] (by rfl) rfl rfl (by (try simp only [List.map_toArray, List.map_cons, List.map_nil]); first | done | rfl | (simp only [List.length_drop, List.length_take]; rfl)) ?_
            with_reducible refine (hornbeamref21_Ready.calls kj2 a0_0 a0_1 a0_2 _ _ y257 _ _ y263 a0_5 t304 _ ?side1 ?side2 ?side3 ?side4 A21.out).mono ?_
            (case side1 => repeat (first | exact (Kd.R_reads' HO259.out).2.2 | (with_reducible refine ccA ?_ _) | (with_reducible refine ccN ?_ _) | (with_reducible refine ccD ?_)))
            (case side2 => exact (Kd.R_reads' HO259.out).2.1)
            (case side3 => repeat (first | exact (Kd.R_reads' HO265.out).2.2 | (with_reducible refine ccA ?_ _) | (with_reducible refine ccN ?_ _) | (with_reducible refine ccD ?_)))
            (case side4 => exact (Kd.R_reads' HO265.out).2.1)
            rintro e w82 ⟨v305, rfl, ho0, hb⟩
            refine ⟨_, rfl, ?_⟩
            have n0_ := aaM (Kd.R_elder' (by (with_reducible repeat (first | apply rrA | apply rrN | apply rrD)); exact HO259.out) (Kd.R_base ho0) hb)
            have n1_ := aaM (rrB (by (with_reducible repeat (first | apply rrA | apply rrN | apply rrD)); exact HO265.out) hb)
            have n2_ := aaM (Kd.R_elder' (by (with_reducible repeat (first | apply rrA | apply rrN | apply rrD)); exact HO271.out) (Kd.R_base ho0) hb)
            have n3_ := aaM (rrB (by (with_reducible repeat (first | apply rrA | apply rrN | apply rrD)); exact HO274.out) hb)
            have n4_ := aaM (Kd.R_elder' (by (with_reducible repeat (first | apply rrA | apply rrN | apply rrD)); exact HO287.out) (Kd.R_base ho0) hb)
            have n5_ := aaM (rrB (by (with_reducible repeat (first | apply rrA | apply rrN | apply rrD)); exact HO290.out) hb)
            have n6_ := aaM (Kd.R_elder' (by (with_reducible repeat (first | apply rrA | apply rrN | apply rrD)); exact HO303.out) (Kd.R_base ho0) hb)
            have n7_ := aaM (Kd.R_lower (Kd.R_new' (Kd.R_new' (Kd.R_new' (Kd.R_new' ho0 (Kd.R_lt (by (with_reducible repeat (first | apply rrA | apply rrN | apply rrD)); exact HO259.out))) (Kd.R_lt (by (with_reducible repeat (first | apply rrA | apply rrN | apply rrD)); exact HO271.out))) (Kd.R_lt (by (with_reducible repeat (first | apply rrA | apply rrN | apply rrD)); exact HO287.out))) (Kd.R_lt (by (with_reducible repeat (first | apply rrA | apply rrN | apply rrD)); exact HO303.out))) (lZ (by repeat (first | (with_reducible first | exact HB.out | apply lA | apply lN | apply lD | refine lS ?_ GE251.out | refine lS ?_ GE253.out | refine lS ?_ GE280.out | refine lS ?_ GE281.out | refine lS ?_ GE296.out | refine lS ?_ GE297.out) | exact HB.out))))
            have n8_ := aaM (bB (g := gb251) (o := .cells #[.int .i64 a0_0, .int .i64 a0_1, .int .i64 a0_2, .slice A0_3 l0_3.length c0_3, .slice A0_4 l0_4.length c0_4, .bool a0_5] 42 (0, 0)) (by (with_reducible repeat (first | refine bN ?_ _ | refine bD ?_ | refine bA ?_ _)); exact BK251.out) hb)
            have n9_ := aaM (bB (g := gb253) (o := .cells #[.int .i64 a0_0, .int .i64 a0_1, .int .i64 a0_2, .slice Ao42 y257.length co42, .slice Ao44 y263.length co44, .bool a0_5] 42 (0, 0)) (by (with_reducible repeat (first | refine bN ?_ _ | refine bD ?_ | refine bA ?_ _)); exact BK253.out) hb)
            have n10_ := aaM (bB (g := gb280) (o := .cells #[.int .i64 t266, .int .i64 t267, .int .i64 t268, .slice Ao54 t269.length co54, .slice Ao55 t272.length co55, .bool t275] 42 (0, 0)) (by (with_reducible repeat (first | refine bN ?_ _ | refine bD ?_ | refine bA ?_ _)); exact BK280.out) hb)
            have n11_ := aaM (bB (g := gb281) (o := .cells #[.int .i64 t276, .int .i64 t277, .int .i64 t278] 52 (0, 0)) (by (with_reducible repeat (first | refine bN ?_ _ | refine bD ?_ | refine bA ?_ _)); exact BK281.out) hb)
            have n12_ := aaM (bB (g := gb296) (o := .cells #[.int .i64 t282, .int .i64 t283, .int .i64 t284, .slice Ao69 t285.length co69, .slice Ao70 t288.length co70, .bool t291] 42 (0, 0)) (by (with_reducible repeat (first | refine bN ?_ _ | refine bD ?_ | refine bA ?_ _)); exact BK296.out) hb)
            have n13_ := aaM (bB (g := gb297) (o := .cells #[.int .i64 t292, .int .i64 t293, .int .i64 t294] 52 (0, 0)) (by (with_reducible repeat (first | refine bN ?_ _ | refine bD ?_ | refine bA ?_ _)); exact BK297.out) hb)
            have n14_ := aaM (lP (by repeat (first | (with_reducible first | exact HB.out | apply lA | apply lN | apply lD | refine lS ?_ GE251.out | refine lS ?_ GE253.out | refine lS ?_ GE280.out | refine lS ?_ GE281.out | refine lS ?_ GE296.out | refine lS ?_ GE297.out) | exact HB.out)) hb)
            clear HO259 HO265 HO271 HO274 HO287 HO290 HO303 BK251 BK253 BK280 BK281 BK296 BK297 HB
            have HO259 := n0_
            have HO265 := n1_
            have HO271 := n2_
            have HO274 := n3_
            have HO287 := n4_
            have HO290 := n5_
            have HO303 := n6_
            have HO306 := n7_
            have BK251 := n8_
            have BK253 := n9_
            have BK280 := n10_
            have BK281 := n11_
            have BK296 := n12_
            have BK297 := n13_
            have HB := n14_
            clear n0_ n1_ n2_ n3_ n4_ n5_ n6_ n7_ n8_ n9_ n10_ n11_ n12_ n13_ n14_
            (try clear hb)
            (try clear hb2)
            (try clear hk)
            (try clear hi)
            (try clear ho0)
            obtain ⟨Ao83, co83, eo83⟩ := Kd.R_slice HO303.out
            (first | subst eo83 | (injection eo83 with f1_ f2_ f3_; have f4_ := f1_.symm; have f5_ := f3_.symm; clear f1_ f2_ f3_; subst f4_; subst f5_))
            obtain ⟨Ao84, co84, eo84⟩ := Kd.R_slice HO306.out
            (first | subst eo84 | (injection eo84 with f1_ f2_ f3_; have f4_ := f1_.symm; have f5_ := f3_.symm; clear f1_ f2_ f3_; subst f4_; subst f5_))
            refine hK.out _ _ ⟨(bC BK251.out 0).trans rfl, (bC BK251.out 1).trans rfl, (bC BK251.out 2).trans rfl, (bC BK251.out 3).trans rfl, (bC BK251.out 4).trans rfl, (bC BK251.out 5).trans rfl, (bC BK253.out 0).trans rfl, (bC BK253.out 1).trans rfl, (bC BK253.out 2).trans rfl, (bC BK253.out 3).trans rfl, (bC BK253.out 4).trans rfl, (bC BK253.out 5).trans rfl, (bC BK280.out 0).trans rfl, (bC BK280.out 1).trans rfl, (bC BK280.out 2).trans rfl, (bC BK280.out 3).trans rfl, (bC BK280.out 4).trans rfl, (bC BK280.out 5).trans rfl, (bC BK296.out 0).trans rfl, (bC BK296.out 1).trans rfl, (bC BK296.out 2).trans rfl, (bC BK296.out 3).trans rfl, (bC BK296.out 4).trans rfl, (bC BK296.out 5).trans rfl, (bC BK281.out 0).trans rfl, (bC BK281.out 1).trans rfl, (bC BK281.out 2).trans rfl, (bC BK297.out 0).trans rfl, (bC BK297.out 1).trans rfl, (bC BK297.out 2).trans rfl⟩ (fun hHeld => ?_)
            clear hK K
            refine norm_ (a' := ?_) ?_ ?_
            rotate_left
            ·show Act.put _ (some 60) _ = _
             simp only [Act.put, ssB, ssZ, ssS, i64_w, i32_w]
             rfl
            refine one_ (i := 13) (N := some 61) #[true, true, true, true, true, true, true, true, true, true, true, true, true, true, false, false, false, false, false, false, false, false, false, false, false, false, false, false, false, false, false, false, false, false, false, false] rfl rfl (one_of HT_.out (by kernel_rfl)) (by decide) (fun K hK => ?_)
            refine goes_ Try.func39 (by kernel_rfl) rfl #[.slice Ao83 t301.length co83, .slice Ao84 t304.length co84] (by rfl) rfl rfl (by (try simp only [List.map_toArray, List.map_cons, List.map_nil]); first | done | rfl | (simp only [List.length_drop, List.length_take]; rfl)) ?_
            with_reducible refine (hornbeamref03_Same.calls kj2 _ _ t301 _ _ t304 true _ ?side1 ?side2 ?side3 ?side4 A22.out).mono ?_
            (case side1 => repeat (first | exact (Kd.R_reads' HO303.out).2.2 | (with_reducible refine ccA ?_ _) | (with_reducible refine ccN ?_ _) | (with_reducible refine ccD ?_)))
            (case side2 => exact (Kd.R_reads' HO303.out).2.1)
            (case side3 => repeat (first | exact (Kd.R_reads' HO306.out).2.2 | (with_reducible refine ccA ?_ _) | (with_reducible refine ccN ?_ _) | (with_reducible refine ccD ?_)))
            (case side4 => exact (Kd.R_reads' HO306.out).2.1)
            rintro e w' ⟨rfl, ⟨nd, rfl⟩⟩
            refine ⟨_, rfl, ?_⟩
            refine hK.out _ _ ⟨(bC BK251.out 0).trans rfl, (bC BK251.out 1).trans rfl, (bC BK251.out 2).trans rfl, (bC BK251.out 3).trans rfl, (bC BK251.out 4).trans rfl, (bC BK251.out 5).trans rfl, (bC BK253.out 0).trans rfl, (bC BK253.out 1).trans rfl, (bC BK253.out 2).trans rfl, (bC BK253.out 3).trans rfl, (bC BK253.out 4).trans rfl, (bC BK253.out 5).trans rfl, (bC BK280.out 0).trans rfl, (bC BK280.out 1).trans rfl, (bC BK280.out 2).trans rfl, (bC BK280.out 3).trans rfl, (bC BK280.out 4).trans rfl, (bC BK280.out 5).trans rfl, (bC BK296.out 0).trans rfl, (bC BK296.out 1).trans rfl, (bC BK296.out 2).trans rfl, (bC BK296.out 3).trans rfl, (bC BK296.out 4).trans rfl, (bC BK296.out 5).trans rfl, (bC BK281.out 0).trans rfl, (bC BK281.out 1).trans rfl, (bC BK281.out 2).trans rfl, (bC BK297.out 0).trans rfl, (bC BK297.out 1).trans rfl, (bC BK297.out 2).trans rfl⟩ (fun hHeld => ?_)
            clear hK K
            refine norm_ (a' := ?_) ?_ ?_
            rotate_left
            ·show Act.put _ (some 61) _ = _
             simp only [Act.put, ssB, ssZ, ssS, i64_w, i32_w]
             rfl
            refine pure_ (i := 14) (N := some 62) (v := ?_) (a' := ?_) #[true, true, true, true, true, true, true, true, true, true, true, true, true, true, true, false, false, false, false, false, false, false, false, false, false, false, false, false, false, false, false, false, false, false, false, false] rfl rfl (any_of HT_.out (by kernel_rfl)) (fun _ _ _ h => h) (Or.inl ⟨by rfl, ?_⟩) ?_ ?_
            rotate_left
            ·intro w'
             go_simp
             with_reducible rfl
            rotate_left
            ·simp only [Act.put, ssB, ssZ, ssS, i64_w, i32_w]
             rfl
            refine pure_ (i := 15) (N := some 63) (v := ?_) (a' := ?_) #[true, true, true, true, true, true, true, true, true, true, true, true, true, true, true, true, false, false, false, false, false, false, false, false, false, false, false, false, false, false, false, false, false, false, false, false] rfl rfl (any_of HT_.out (by kernel_rfl)) (fun _ _ _ h => h) (Or.inl ⟨by rfl, ?_⟩) ?_ ?_
            rotate_left
            ·intro w'
             go_simp
             with_reducible rfl
            rotate_left
            ·simp only [Act.put, ssB, ssZ, ssS, i64_w, i32_w]
             rfl
            refine take_ (i := 16) (N := some 64) (v := ?_) (a' := ?_) #[true, true, true, true, true, true, true, true, true, true, true, true, true, true, true, true, true, false, false, false, false, false, false, false, false, false, false, false, false, false, false, false, false, false, false, false] rfl rfl (take_ofW HT_.out HW_.out (by kernel_rfl)) (fun _ _ _ h => h) (Or.inl ⟨by rfl, ?_⟩) hHeld ?_ ?_
            rotate_left
            ·rintro w' ⟨s0, s1, s2, s3, s4, s5, s6, s7, s8, s9, s10, s11, s12, s13, s14, s15, s16, s17, s18, s19, s20, s21, s22, s23, s24, s25, s26, s27, s28, s29⟩
             go_simp
             with_reducible rfl
            rotate_left
            ·simp only [Act.put, ssB, ssZ, ssS, i64_w, i32_w]
             rfl
            refine take_ (i := 17) (N := some 65) (v := ?_) (a' := ?_) #[true, true, true, true, true, true, true, true, true, true, true, true, true, true, true, true, true, true, false, false, false, false, false, false, false, false, false, false, false, false, false, false, false, false, false, false] rfl rfl (take_ofW HT_.out HW_.out (by kernel_rfl)) (fun _ _ _ h => h) (Or.inl ⟨by rfl, ?_⟩) hHeld ?_ ?_
            rotate_left
            ·rintro w' ⟨s0, s1, s2, s3, s4, s5, s6, s7, s8, s9, s10, s11, s12, s13, s14, s15, s16, s17, s18, s19, s20, s21, s22, s23, s24, s25, s26, s27, s28, s29⟩
             go_simp
             with_reducible rfl
            rotate_left
            ·simp only [Act.put, ssB, ssZ, ssS, i64_w, i32_w]
             rfl
            refine one_ (i := 18) (N := some 66) #[true, true, true, true, true, true, true, true, true, true, true, true, true, true, true, true, true, true, true, false, false, false, false, false, false, false, false, false, false, false, false, false, false, false, false, false] rfl rfl (one_of HT_.out (by kernel_rfl)) (by decide) (fun K hK => ?_)
            refine goes_ Try.func25 (by kernel_rfl) rfl #[.agg #[.int .i64 t266, .int .i64 t267, .int .i64 t268, .slice Ao54 t269.length co54, .slice Ao55 t272.length co55, .bool t275], .agg #[.int .i64 t282, .int .i64 t283, .int .i64 t284, .slice Ao69 t285.length co69, .slice Ao70 t288.length co70, .bool t291]] (by rfl) rfl rfl (by (try simp only [List.map_toArray, List.map_cons, List.map_nil]); first | done | rfl | (simp only [List.length_drop, List.length_take]; rfl)) ?_
            with_reducible refine (hornbeamref21_Same.calls kj2 t266 t267 t268 _ _ t269 _ _ t272 t275 t282 t283 t284 _ _ t285 _ _ t288 t291 true _ ?side1 ?side2 ?side3 ?side4 ?side5 ?side6 ?side7 ?side8 A24.out).mono ?_
            (case side1 => repeat (first | exact (Kd.R_reads' HO271.out).2.2 | (with_reducible refine ccA ?_ _) | (with_reducible refine ccN ?_ _) | (with_reducible refine ccD ?_)))
            (case side2 => exact (Kd.R_reads' HO271.out).2.1)
            (case side3 => repeat (first | exact (Kd.R_reads' HO274.out).2.2 | (with_reducible refine ccA ?_ _) | (with_reducible refine ccN ?_ _) | (with_reducible refine ccD ?_)))
            (case side4 => exact (Kd.R_reads' HO274.out).2.1)
            (case side5 => repeat (first | exact (Kd.R_reads' HO287.out).2.2 | (with_reducible refine ccA ?_ _) | (with_reducible refine ccN ?_ _) | (with_reducible refine ccD ?_)))
            (case side6 => exact (Kd.R_reads' HO287.out).2.1)
            (case side7 => repeat (first | exact (Kd.R_reads' HO290.out).2.2 | (with_reducible refine ccA ?_ _) | (with_reducible refine ccN ?_ _) | (with_reducible refine ccD ?_)))
            (case side8 => exact (Kd.R_reads' HO290.out).2.1)
            rintro e w85 ⟨rfl, hb⟩
            refine ⟨_, rfl, ?_⟩
            have n0_ := aaM (rrB (by (with_reducible repeat (first | apply rrA | apply rrN | apply rrD)); exact HO259.out) hb)
            have n1_ := aaM (rrB (by (with_reducible repeat (first | apply rrA | apply rrN | apply rrD)); exact HO265.out) hb)
            have n2_ := aaM (rrB (by (with_reducible repeat (first | apply rrA | apply rrN | apply rrD)); exact HO271.out) hb)
            have n3_ := aaM (rrB (by (with_reducible repeat (first | apply rrA | apply rrN | apply rrD)); exact HO274.out) hb)
            have n4_ := aaM (rrB (by (with_reducible repeat (first | apply rrA | apply rrN | apply rrD)); exact HO287.out) hb)
            have n5_ := aaM (rrB (by (with_reducible repeat (first | apply rrA | apply rrN | apply rrD)); exact HO290.out) hb)
            have n6_ := aaM (rrB (by (with_reducible repeat (first | apply rrA | apply rrN | apply rrD)); exact HO303.out) hb)
            have n7_ := aaM (rrB (by (with_reducible repeat (first | apply rrA | apply rrN | apply rrD)); exact HO306.out) hb)
            have n8_ := aaM (bB (g := gb251) (o := .cells #[.int .i64 a0_0, .int .i64 a0_1, .int .i64 a0_2, .slice A0_3 l0_3.length c0_3, .slice A0_4 l0_4.length c0_4, .bool a0_5] 42 (0, 0)) (by (with_reducible repeat (first | refine bN ?_ _ | refine bD ?_ | refine bA ?_ _)); exact BK251.out) hb)
            have n9_ := aaM (bB (g := gb253) (o := .cells #[.int .i64 a0_0, .int .i64 a0_1, .int .i64 a0_2, .slice Ao42 y257.length co42, .slice Ao44 y263.length co44, .bool a0_5] 42 (0, 0)) (by (with_reducible repeat (first | refine bN ?_ _ | refine bD ?_ | refine bA ?_ _)); exact BK253.out) hb)
            have n10_ := aaM (bB (g := gb280) (o := .cells #[.int .i64 t266, .int .i64 t267, .int .i64 t268, .slice Ao54 t269.length co54, .slice Ao55 t272.length co55, .bool t275] 42 (0, 0)) (by (with_reducible repeat (first | refine bN ?_ _ | refine bD ?_ | refine bA ?_ _)); exact BK280.out) hb)
            have n11_ := aaM (bB (g := gb281) (o := .cells #[.int .i64 t276, .int .i64 t277, .int .i64 t278] 52 (0, 0)) (by (with_reducible repeat (first | refine bN ?_ _ | refine bD ?_ | refine bA ?_ _)); exact BK281.out) hb)
            have n12_ := aaM (bB (g := gb296) (o := .cells #[.int .i64 t282, .int .i64 t283, .int .i64 t284, .slice Ao69 t285.length co69, .slice Ao70 t288.length co70, .bool t291] 42 (0, 0)) (by (with_reducible repeat (first | refine bN ?_ _ | refine bD ?_ | refine bA ?_ _)); exact BK296.out) hb)
            have n13_ := aaM (bB (g := gb297) (o := .cells #[.int .i64 t292, .int .i64 t293, .int .i64 t294] 52 (0, 0)) (by (with_reducible repeat (first | refine bN ?_ _ | refine bD ?_ | refine bA ?_ _)); exact BK297.out) hb)
            have n14_ := aaM (lP (by repeat (first | (with_reducible first | exact HB.out | apply lA | apply lN | apply lD | refine lS ?_ GE251.out | refine lS ?_ GE253.out | refine lS ?_ GE280.out | refine lS ?_ GE281.out | refine lS ?_ GE296.out | refine lS ?_ GE297.out) | exact HB.out)) hb)
            clear HO259 HO265 HO271 HO274 HO287 HO290 HO303 HO306 BK251 BK253 BK280 BK281 BK296 BK297 HB
            have HO259 := n0_
            have HO265 := n1_
            have HO271 := n2_
            have HO274 := n3_
            have HO287 := n4_
            have HO290 := n5_
            have HO303 := n6_
            have HO306 := n7_
            have BK251 := n8_
            have BK253 := n9_
            have BK280 := n10_
            have BK281 := n11_
            have BK296 := n12_
            have BK297 := n13_
            have HB := n14_
            clear n0_ n1_ n2_ n3_ n4_ n5_ n6_ n7_ n8_ n9_ n10_ n11_ n12_ n13_ n14_
            (try clear hb)
            (try clear hb2)
            (try clear hk)
            (try clear hi)
            refine hK.out _ _ ⟨(bC BK251.out 0).trans rfl, (bC BK251.out 1).trans rfl, (bC BK251.out 2).trans rfl, (bC BK251.out 3).trans rfl, (bC BK251.out 4).trans rfl, (bC BK251.out 5).trans rfl, (bC BK253.out 0).trans rfl, (bC BK253.out 1).trans rfl, (bC BK253.out 2).trans rfl, (bC BK253.out 3).trans rfl, (bC BK253.out 4).trans rfl, (bC BK253.out 5).trans rfl, (bC BK280.out 0).trans rfl, (bC BK280.out 1).trans rfl, (bC BK280.out 2).trans rfl, (bC BK280.out 3).trans rfl, (bC BK280.out 4).trans rfl, (bC BK280.out 5).trans rfl, (bC BK296.out 0).trans rfl, (bC BK296.out 1).trans rfl, (bC BK296.out 2).trans rfl, (bC BK296.out 3).trans rfl, (bC BK296.out 4).trans rfl, (bC BK296.out 5).trans rfl, (bC BK281.out 0).trans rfl, (bC BK281.out 1).trans rfl, (bC BK281.out 2).trans rfl, (bC BK297.out 0).trans rfl, (bC BK297.out 1).trans rfl, (bC BK297.out 2).trans rfl⟩ (fun hHeld => ?_)
            clear hK K
            refine norm_ (a' := ?_) ?_ ?_
            rotate_left
            ·show Act.put _ (some 66) _ = _
             simp only [Act.put, ssB, ssZ, ssS, i64_w, i32_w]
             rfl
            refine pure_ (i := 19) (N := some 67) (v := ?_) (a' := ?_) #[true, true, true, true, true, true, true, true, true, true, true, true, true, true, true, true, true, true, true, true, false, false, false, false, false, false, false, false, false, false, false, false, false, false, false, false] rfl rfl (any_of HT_.out (by kernel_rfl)) (fun _ _ _ h => h) (Or.inl ⟨by rfl, ?_⟩) ?_ ?_
            rotate_left
            ·intro w'
             go_simp
             with_reducible rfl
            rotate_left
            ·simp only [Act.put, ssB, ssZ, ssS, i64_w, i32_w]
             rfl
            refine pure_ (i := 20) (N := some 68) (v := ?_) (a' := ?_) #[true, true, true, true, true, true, true, true, true, true, true, true, true, true, true, true, true, true, true, true, true, false, false, false, false, false, false, false, false, false, false, false, false, false, false, false] rfl rfl (any_of HT_.out (by kernel_rfl)) (fun _ _ _ h => h) (Or.inl ⟨by rfl, ?_⟩) ?_ ?_
            rotate_left
            ·intro w'
             go_simp
             with_reducible rfl
            rotate_left
            ·simp only [Act.put, ssB, ssZ, ssS, i64_w, i32_w]
             rfl
            refine take_ (i := 21) (N := some 69) (v := ?_) (a' := ?_) #[true, true, true, true, true, true, true, true, true, true, true, true, true, true, true, true, true, true, true, true, true, true, false, false, false, false, false, false, false, false, false, false, false, false, false, false] rfl rfl (take_ofW HT_.out HW_.out (by kernel_rfl)) (fun _ _ _ h => h) (Or.inl ⟨by rfl, ?_⟩) hHeld ?_ ?_
            rotate_left
            ·rintro w' ⟨s0, s1, s2, s3, s4, s5, s6, s7, s8, s9, s10, s11, s12, s13, s14, s15, s16, s17, s18, s19, s20, s21, s22, s23, s24, s25, s26, s27, s28, s29⟩
             go_simp
             with_reducible rfl
            rotate_left
            ·simp only [Act.put, ssB, ssZ, ssS, i64_w, i32_w]
             rfl
            refine take_ (i := 22) (N := some 70) (v := ?_) (a' := ?_) #[true, true, true, true, true, true, true, true, true, true, true, true, true, true, true, true, true, true, true, true, true, true, true, false, false, false, false, false, false, false, false, false, false, false, false, false] rfl rfl (take_ofW HT_.out HW_.out (by kernel_rfl)) (fun _ _ _ h => h) (Or.inl ⟨by rfl, ?_⟩) hHeld ?_ ?_
            rotate_left
            ·rintro w' ⟨s0, s1, s2, s3, s4, s5, s6, s7, s8, s9, s10, s11, s12, s13, s14, s15, s16, s17, s18, s19, s20, s21, s22, s23, s24, s25, s26, s27, s28, s29⟩
             go_simp
             with_reducible rfl
            rotate_left
            ·simp only [Act.put, ssB, ssZ, ssS, i64_w, i32_w]
             rfl
            refine pure_ (i := 23) (N := some 71) (v := ?_) (a' := ?_) #[true, true, true, true, true, true, true, true, true, true, true, true, true, true, true, true, true, true, true, true, true, true, true, true, false, false, false, false, false, false, false, false, false, false, false, false] rfl rfl (any_of HT_.out (by kernel_rfl)) (fun _ _ _ h => h) (Or.inl ⟨by rfl, ?_⟩) ?_ ?_
            rotate_left
            ·intro w'
             go_simp
             with_reducible rfl
            rotate_left
            ·simp only [Act.put, ssB, ssZ, ssS, i64_w, i32_w]
             rfl
            refine pure_ (i := 24) (N := some 72) (v := ?_) (a' := ?_) #[true, true, true, true, true, true, true, true, true, true, true, true, true, true, true, true, true, true, true, true, true, true, true, true, true, false, false, false, false, false, false, false, false, false, false, false] rfl rfl (any_of HT_.out (by kernel_rfl)) (fun _ _ _ h => h) (Or.inl ⟨by rfl, ?_⟩) ?_ ?_
            rotate_left
            ·intro w'
             go_simp
             with_reducible rfl
            rotate_left
            ·simp only [Act.put, ssB, ssZ, ssS, i64_w, i32_w]
             rfl
            refine pure_ (i := 25) (N := some 73) (v := ?_) (a' := ?_) #[true, true, true, true, true, true, true, true, true, true, true, true, true, true, true, true, true, true, true, true, true, true, true, true, true, true, false, false, false, false, false, false, false, false, false, false] rfl rfl (any_of HT_.out (by kernel_rfl)) (fun _ _ _ h => h) (Or.inl ⟨by rfl, ?_⟩) ?_ ?_
            rotate_left
            ·intro w'
             go_simp
             with_reducible rfl
            rotate_left
            ·simp only [Act.put, ssB, ssZ, ssS, i64_w, i32_w]
             rfl
            refine pure_ (i := 26) (N := some 74) (v := ?_) (a' := ?_) #[true, true, true, true, true, true, true, true, true, true, true, true, true, true, true, true, true, true, true, true, true, true, true, true, true, true, true, false, false, false, false, false, false, false, false, false] rfl rfl (any_of HT_.out (by kernel_rfl)) (fun _ _ _ h => h) (Or.inl ⟨by rfl, ?_⟩) ?_ ?_
            rotate_left
            ·intro w'
             go_simp
             with_reducible rfl
            rotate_left
            ·simp only [Act.put, ssB, ssZ, ssS, i64_w, i32_w]
             rfl
            refine pure_ (i := 27) (N := some 75) (v := ?_) (a' := ?_) #[true, true, true, true, true, true, true, true, true, true, true, true, true, true, true, true, true, true, true, true, true, true, true, true, true, true, true, true, false, false, false, false, false, false, false, false] rfl rfl (any_of HT_.out (by kernel_rfl)) (fun _ _ _ h => h) (Or.inl ⟨by rfl, ?_⟩) ?_ ?_
            rotate_left
            ·intro w'
             go_simp
             with_reducible rfl
            rotate_left
            ·simp only [Act.put, ssB, ssZ, ssS, i64_w, i32_w]
             rfl
            refine pure_ (i := 28) (N := some 76) (v := ?_) (a' := ?_) #[true, true, true, true, true, true, true, true, true, true, true, true, true, true, true, true, true, true, true, true, true, true, true, true, true, true, true, true, true, false, false, false, false, false, false, false] rfl rfl (any_of HT_.out (by kernel_rfl)) (fun _ _ _ h => h) (Or.inl ⟨by rfl, ?_⟩) ?_ ?_
            rotate_left
            ·intro w'
             go_simp
             with_reducible rfl
            rotate_left
            ·simp only [Act.put, ssB, ssZ, ssS, i64_w, i32_w]
             rfl
            refine pure_ (i := 29) (N := some 77) (v := ?_) (a' := ?_) #[true, true, true, true, true, true, true, true, true, true, true, true, true, true, true, true, true, true, true, true, true, true, true, true, true, true, true, true, true, true, false, false, false, false, false, false] rfl rfl (any_of HT_.out (by kernel_rfl)) (fun _ _ _ h => h) (Or.inl ⟨by rfl, ?_⟩) ?_ ?_
            rotate_left
            ·intro w'
             go_simp
             with_reducible rfl
            rotate_left
            ·simp only [Act.put, ssB, ssZ, ssS, i64_w, i32_w]
             rfl
            refine pure_ (i := 30) (N := some 78) (v := ?_) (a' := ?_) #[true, true, true, true, true, true, true, true, true, true, true, true, true, true, true, true, true, true, true, true, true, true, true, true, true, true, true, true, true, true, true, false, false, false, false, false] rfl rfl (any_of HT_.out (by kernel_rfl)) (fun _ _ _ h => h) (Or.inl ⟨by rfl, ?_⟩) ?_ ?_
            rotate_left
            ·intro w'
             go_simp
             with_reducible rfl
            rotate_left
            ·simp only [Act.put, ssB, ssZ, ssS, i64_w, i32_w]
             rfl
            refine take_ (i := 31) (N := some 79) (v := ?_) (a' := ?_) #[true, true, true, true, true, true, true, true, true, true, true, true, true, true, true, true, true, true, true, true, true, true, true, true, true, true, true, true, true, true, true, true, false, false, false, false] rfl rfl (take_ofW HT_.out HW_.out (by kernel_rfl)) (fun _ _ _ h => h) (Or.inl ⟨by rfl, ?_⟩) hHeld ?_ ?_
            rotate_left
            ·rintro w' ⟨s0, s1, s2, s3, s4, s5, s6, s7, s8, s9, s10, s11, s12, s13, s14, s15, s16, s17, s18, s19, s20, s21, s22, s23, s24, s25, s26, s27, s28, s29⟩
             go_simp
             with_reducible rfl
            rotate_left
            ·simp only [Act.put, ssB, ssZ, ssS, i64_w, i32_w]
             rfl
            refine take_ (i := 32) (N := some 80) (v := ?_) (a' := ?_) #[true, true, true, true, true, true, true, true, true, true, true, true, true, true, true, true, true, true, true, true, true, true, true, true, true, true, true, true, true, true, true, true, true, false, false, false] rfl rfl (take_ofW HT_.out HW_.out (by kernel_rfl)) (fun _ _ _ h => h) (Or.inl ⟨by rfl, ?_⟩) hHeld ?_ ?_
            rotate_left
            ·rintro w' ⟨s0, s1, s2, s3, s4, s5, s6, s7, s8, s9, s10, s11, s12, s13, s14, s15, s16, s17, s18, s19, s20, s21, s22, s23, s24, s25, s26, s27, s28, s29⟩
             go_simp
             with_reducible rfl
            rotate_left
            ·simp only [Act.put, ssB, ssZ, ssS, i64_w, i32_w]
             rfl
            refine one_ (i := 33) (N := some 81) #[true, true, true, true, true, true, true, true, true, true, true, true, true, true, true, true, true, true, true, true, true, true, true, true, true, true, true, true, true, true, true, true, true, true, false, false] rfl rfl (one_of HT_.out (by kernel_rfl)) (by decide) (fun K hK => ?_)
            refine goes_ Try.func25 (by kernel_rfl) rfl #[.agg #[.int .i64 a0_0, .int .i64 a0_1, .int .i64 a0_2, .slice A0_3 l0_3.length c0_3, .slice A0_4 l0_4.length c0_4, .bool a0_5], .agg #[.int .i64 a0_0, .int .i64 a0_1, .int .i64 a0_2, .slice Ao42 y257.length co42, .slice Ao44 y263.length co44, .bool a0_5]] (by rfl) rfl rfl (by (try simp only [List.map_toArray, List.map_cons, List.map_nil]); first | done | rfl | (simp only [List.length_drop, List.length_take]; rfl)) ?_
            with_reducible refine (hornbeamref21_Same.calls kj2 a0_0 a0_1 a0_2 _ _ l0_3 _ _ l0_4 a0_5 a0_0 a0_1 a0_2 _ _ y257 _ _ y263 a0_5 t309 _ ?side1 ?side2 ?side3 ?side4 ?side5 ?side6 ?side7 ?side8 A28.out).mono ?_
            (case side1 => repeat (first | exact (ccB HR0_3.out HB.out) | (with_reducible refine ccA ?_ _) | (with_reducible refine ccN ?_ _) | (with_reducible refine ccD ?_)))
            (case side2 => exact HC0_3.out)
            (case side3 => repeat (first | exact (ccB HR0_4.out HB.out) | (with_reducible refine ccA ?_ _) | (with_reducible refine ccN ?_ _) | (with_reducible refine ccD ?_)))
            (case side4 => exact HC0_4.out)
            (case side5 => repeat (first | exact (Kd.R_reads' HO259.out).2.2 | (with_reducible refine ccA ?_ _) | (with_reducible refine ccN ?_ _) | (with_reducible refine ccD ?_)))
            (case side6 => exact (Kd.R_reads' HO259.out).2.1)
            (case side7 => repeat (first | exact (Kd.R_reads' HO265.out).2.2 | (with_reducible refine ccA ?_ _) | (with_reducible refine ccN ?_ _) | (with_reducible refine ccD ?_)))
            (case side8 => exact (Kd.R_reads' HO265.out).2.1)
            rintro e w86 ⟨rfl, hb⟩
            refine ⟨_, rfl, ?_⟩
            have n0_ := aaM (rrB (by (with_reducible repeat (first | apply rrA | apply rrN | apply rrD)); exact HO259.out) hb)
            have n1_ := aaM (rrB (by (with_reducible repeat (first | apply rrA | apply rrN | apply rrD)); exact HO265.out) hb)
            have n2_ := aaM (rrB (by (with_reducible repeat (first | apply rrA | apply rrN | apply rrD)); exact HO271.out) hb)
            have n3_ := aaM (rrB (by (with_reducible repeat (first | apply rrA | apply rrN | apply rrD)); exact HO274.out) hb)
            have n4_ := aaM (rrB (by (with_reducible repeat (first | apply rrA | apply rrN | apply rrD)); exact HO287.out) hb)
            have n5_ := aaM (rrB (by (with_reducible repeat (first | apply rrA | apply rrN | apply rrD)); exact HO290.out) hb)
            have n6_ := aaM (rrB (by (with_reducible repeat (first | apply rrA | apply rrN | apply rrD)); exact HO303.out) hb)
            have n7_ := aaM (rrB (by (with_reducible repeat (first | apply rrA | apply rrN | apply rrD)); exact HO306.out) hb)
            have n8_ := aaM (bB (g := gb251) (o := .cells #[.int .i64 a0_0, .int .i64 a0_1, .int .i64 a0_2, .slice A0_3 l0_3.length c0_3, .slice A0_4 l0_4.length c0_4, .bool a0_5] 42 (0, 0)) (by (with_reducible repeat (first | refine bN ?_ _ | refine bD ?_ | refine bA ?_ _)); exact BK251.out) hb)
            have n9_ := aaM (bB (g := gb253) (o := .cells #[.int .i64 a0_0, .int .i64 a0_1, .int .i64 a0_2, .slice Ao42 y257.length co42, .slice Ao44 y263.length co44, .bool a0_5] 42 (0, 0)) (by (with_reducible repeat (first | refine bN ?_ _ | refine bD ?_ | refine bA ?_ _)); exact BK253.out) hb)
            have n10_ := aaM (bB (g := gb280) (o := .cells #[.int .i64 t266, .int .i64 t267, .int .i64 t268, .slice Ao54 t269.length co54, .slice Ao55 t272.length co55, .bool t275] 42 (0, 0)) (by (with_reducible repeat (first | refine bN ?_ _ | refine bD ?_ | refine bA ?_ _)); exact BK280.out) hb)
            have n11_ := aaM (bB (g := gb281) (o := .cells #[.int .i64 t276, .int .i64 t277, .int .i64 t278] 52 (0, 0)) (by (with_reducible repeat (first | refine bN ?_ _ | refine bD ?_ | refine bA ?_ _)); exact BK281.out) hb)
            have n12_ := aaM (bB (g := gb296) (o := .cells #[.int .i64 t282, .int .i64 t283, .int .i64 t284, .slice Ao69 t285.length co69, .slice Ao70 t288.length co70, .bool t291] 42 (0, 0)) (by (with_reducible repeat (first | refine bN ?_ _ | refine bD ?_ | refine bA ?_ _)); exact BK296.out) hb)
            have n13_ := aaM (bB (g := gb297) (o := .cells #[.int .i64 t292, .int .i64 t293, .int .i64 t294] 52 (0, 0)) (by (with_reducible repeat (first | refine bN ?_ _ | refine bD ?_ | refine bA ?_ _)); exact BK297.out) hb)
            have n14_ := aaM (lP (by repeat (first | (with_reducible first | exact HB.out | apply lA | apply lN | apply lD | refine lS ?_ GE251.out | refine lS ?_ GE253.out | refine lS ?_ GE280.out | refine lS ?_ GE281.out | refine lS ?_ GE296.out | refine lS ?_ GE297.out) | exact HB.out)) hb)
            clear HO259 HO265 HO271 HO274 HO287 HO290 HO303 HO306 BK251 BK253 BK280 BK281 BK296 BK297 HB
            have HO259 := n0_
            have HO265 := n1_
            have HO271 := n2_
            have HO274 := n3_
            have HO287 := n4_
            have HO290 := n5_
            have HO303 := n6_
            have HO306 := n7_
            have BK251 := n8_
            have BK253 := n9_
            have BK280 := n10_
            have BK281 := n11_
            have BK296 := n12_
            have BK297 := n13_
            have HB := n14_
            clear n0_ n1_ n2_ n3_ n4_ n5_ n6_ n7_ n8_ n9_ n10_ n11_ n12_ n13_ n14_
            (try clear hb)
            (try clear hb2)
            (try clear hk)
            (try clear hi)
            refine hK.out _ _ ⟨(bC BK251.out 0).trans rfl, (bC BK251.out 1).trans rfl, (bC BK251.out 2).trans rfl, (bC BK251.out 3).trans rfl, (bC BK251.out 4).trans rfl, (bC BK251.out 5).trans rfl, (bC BK253.out 0).trans rfl, (bC BK253.out 1).trans rfl, (bC BK253.out 2).trans rfl, (bC BK253.out 3).trans rfl, (bC BK253.out 4).trans rfl, (bC BK253.out 5).trans rfl, (bC BK280.out 0).trans rfl, (bC BK280.out 1).trans rfl, (bC BK280.out 2).trans rfl, (bC BK280.out 3).trans rfl, (bC BK280.out 4).trans rfl, (bC BK280.out 5).trans rfl, (bC BK296.out 0).trans rfl, (bC BK296.out 1).trans rfl, (bC BK296.out 2).trans rfl, (bC BK296.out 3).trans rfl, (bC BK296.out 4).trans rfl, (bC BK296.out 5).trans rfl, (bC BK281.out 0).trans rfl, (bC BK281.out 1).trans rfl, (bC BK281.out 2).trans rfl, (bC BK297.out 0).trans rfl, (bC BK297.out 1).trans rfl, (bC BK297.out 2).trans rfl⟩ (fun hHeld => ?_)
            clear hK K
            refine norm_ (a' := ?_) ?_ ?_
            rotate_left
            ·show Act.put _ (some 81) _ = _
             simp only [Act.put, ssB, ssZ, ssS, i64_w, i32_w]
             rfl
            refine pure_ (i := 34) (N := some 82) (v := ?_) (a' := ?_) #[true, true, true, true, true, true, true, true, true, true, true, true, true, true, true, true, true, true, true, true, true, true, true, true, true, true, true, true, true, true, true, true, true, true, true, false] rfl rfl (any_of HT_.out (by kernel_rfl)) (fun _ _ _ h => h) (Or.inl ⟨by rfl, ?_⟩) ?_ ?_
            rotate_left
            ·intro w'
             go_simp
             with_reducible rfl
            rotate_left
            ·simp only [Act.put, ssB, ssZ, ssS, i64_w, i32_w]
             rfl
            refine pure_ (i := 35) (N := some 4) (v := ?_) (a' := ?_) #[true, true, true, true, true, true, true, true, true, true, true, true, true, true, true, true, true, true, true, true, true, true, true, true, true, true, true, true, true, true, true, true, true, true, true, true] rfl rfl (any_of HT_.out (by kernel_rfl)) (fun _ _ _ h => h) (Or.inl ⟨by rfl, ?_⟩) ?_ ?_
            rotate_left
            ·intro w'
             go_simp
             with_reducible rfl
            rotate_left
            ·simp only [Act.put, ssB, ssZ, ssS, i64_w, i32_w]
             rfl
            refine done_ (done_of HT_.out (by kernel_rfl)) ?_
            try go_wp2
            all_goals (go_ret; exact ⟨by first | rfl | (simp [errW_none, errW_some] <;> rfl) | (simp [*, errW_none, errW_some] <;> rfl) | (simp_all; done), by repeat (first | (with_reducible first | exact HB.out | apply lA | apply lN | apply lD | refine lS ?_ GE251.out | refine lS ?_ GE253.out | refine lS ?_ GE280.out | refine lS ?_ GE281.out | refine lS ?_ GE296.out | refine lS ?_ GE297.out) | exact HB.out)⟩)
           ·rw [if_neg c27] at H
            have c27b0 : (t279 == t295) = false := beq_eq_false_iff_ne.mpr c27
            have c27b1 : (t279 != t295) = true := bne_iff_ne.mpr c27
            exact absurd (Option.some.inj H) (by rw [HR_.out]; decide)
          ·rw [if_neg c26] at H
           have c26b0 : (t276 == t292 && (t277 == t293 && (t278 == t294))) = false := by simpa using c26
           (try (have c26b1 : decide (t276 = t292 && (t277 == t293 && (t278 == t294))) = false := by simpa using c26))
           (try (have c26b2 : (t276 == t292 && (t277 == t293 && (t278 == t294))) = false := by simpa using c26))
           (try (have c26b3 : ¬ (t276 = t292 && (t277 == t293 && (t278 == t294))) := by simpa using c26))
           clear c26
           exact absurd (Option.some.inj H) (by rw [HR_.out]; decide)
         ·replace c25 := Bool.eq_false_iff.mpr c25
          subst c25
          have H1 : (some false) = some r := by rw [if_neg (show ¬ (false = true) by decide)] at H; exact H
          clear H
          have H := H1
          clear H1
          exact absurd (Option.some.inj H) (by rw [HR_.out]; decide)
        ·replace c23 := Bool.eq_false_iff.mpr c23
         subst c23
         have H1 : (some false) = some r := by rw [if_neg (show ¬ (false = true) by decide)] at H; exact H
         clear H
         have H := H1
         clear H1
         exact absurd (Option.some.inj H) (by rw [HR_.out]; decide)
       ·rw [if_neg c19] at H
        have c19b0 : (t299 == t300) = false := by simpa using c19
        (try (have c19b1 : decide (t299 = t300) = false := by simpa using c19))
        (try (have c19b2 : (t299 == t300) = false := by simpa using c19))
        (try (have c19b3 : ¬ (t299 = t300) := by simpa using c19))
        clear c19
        exact absurd (Option.some.inj H) (by rw [HR_.out]; decide)
      ·replace c16 := Bool.eq_false_iff.mpr c16
       subst c16
       have H1 : (some false) = some r := by rw [if_neg (show ¬ (false = true) by decide)] at H; exact H
       clear H
       have H := H1
       clear H1
       exact absurd (Option.some.inj H) (by rw [HR_.out]; decide)
     ·rw [if_neg c12] at H
      exact absurd H (by simp)
    ·rw [if_neg c11] at H
     exact absurd H (by simp)

/-- THE ONE PURE STATEMENT of hornbeamlaw21_SchedSteps: yours. -/
def hornbeamlaw21_SchedSteps.Pure : Prop := ∀ (a0_0 : Int) (a0_1 : Int) (a0_2 : Int) (l0_3 : List Int) (l0_4 : List Bool) (a0_5 : Bool) (a1 : Int), (Lit.int .i64 a0_0).wf = true → (Lit.int .i64 a0_1).wf = true → (Lit.int .i64 a0_2).wf = true → (l0_3.length ≤ maxLen ∧ ∀ v0 ∈ l0_3, (Lit.int .i64 v0).wf = true) → (l0_4.length ≤ maxLen ∧ ∀ v0 ∈ l0_4, True) → (Lit.int .i64 a1).wf = true → ∃ k, hornbeamlaw21_SchedSteps.f k a0_0 a0_1 a0_2 l0_3 l0_4 a0_5 a1 = some true

end Go.Proofs.Ytoonddgldmfleaa.QSchedSteps
