-- Written by a program of this session (wip/tools/mkprint.py over the kit's print); Lean checks it.
import Derived.Test.YtoonddgldmfleaaQSchedPlaysx0
namespace Go.Proofs.Ytoonddgldmfleaa.QSchedPlays
open Go.RowKit Go.Proofs.YtoonddgldmfleaaW.PrintWords Go.Proofs.YtoonddgldmfleaaW.PrintLast Go.Proofs.YtoonddgldmfleaaW.PrintMore
attribute [local go_sem] max2_int min2_int max_two min_two max_three min_three max_four min_four   -- for this text's walks alone
set_option linter.unusedVariables false
set_option linter.unusedSimpArgs false

/-! ### hornbeamref21_New: function 55 -/
mutual
def hornbeamref21_New.j0 : Nat → Int → Int → Bool → Option (Int × Int × Int × List Int × List Bool × Bool × Int)
 | 0, _, _, _ => none
 | k + 1, x0, x1, x22 => if x22 = true then (some (0, 0, 0, ([] : List Int), ([] : List Bool), false, 1)) else (hornbeamref21_New.l0 k x0 x1 0 x0 x1 0 ([] : List Int) false)
def hornbeamref21_New.l0 : Nat → Int → Int → Int → Int → Int → Int → List Int → Bool → Option (Int × Int × Int × List Int × List Bool × Bool × Int)
 | 0, _, _, _, _, _, _, _, _ => none
 | k + 1, x0, x1, x7, x205000, x205001, x205002, x205003, x205005 => if x7 < x1 then (if x205003.length < 17592186044416 then (hornbeamref21_New.l0 k x0 x1 (wrap64 (x7 + 1)) x205000 x205001 x205002 (x205003 ++ [(-1)]) x205005) else (none)) else (hornbeamref21_New.l1 k x0 0 x205000 x205001 x205002 x205003 ([] : List Bool) x205005)
def hornbeamref21_New.l1 : Nat → Int → Int → Int → Int → Int → List Int → List Bool → Bool → Option (Int × Int × Int × List Int × List Bool × Bool × Int)
 | 0, _, _, _, _, _, _, _, _ => none
 | k + 1, x0, x8, x205000, x205001, x205002, x205003, x205004, x205005 => if x8 < x0 then (if x205004.length < 140737488355328 then (hornbeamref21_New.l1 k x0 (wrap64 (x8 + 1)) x205000 x205001 x205002 x205003 (x205004 ++ [false]) x205005) else (none)) else (some (x205000, x205001, x205002, x205003, x205004, x205005, 0))
end
def hornbeamref21_New.f (k : Nat) (a0 : Int) (a1 : Int) : Option (Int × Int × Int × List Int × List Bool × Bool × Int) := if a0 < 0 then (hornbeamref21_New.j0 k a0 a1 true) else (if a0 > 1048576 then (hornbeamref21_New.j0 k a0 a1 true) else (if a1 < 1 then (hornbeamref21_New.j0 k a0 a1 true) else (hornbeamref21_New.j0 k a0 a1 (decide (a1 > 64)))))
theorem hornbeamref21_New.mono_l : ∀ k, (∀ y0 y1 y2, LeO (hornbeamref21_New.j0 k y0 y1 y2) (hornbeamref21_New.j0 (k + 1) y0 y1 y2)) ∧ (∀ y0 y1 y2 y3 y4 y5 y6 y7, LeO (hornbeamref21_New.l0 k y0 y1 y2 y3 y4 y5 y6 y7) (hornbeamref21_New.l0 (k + 1) y0 y1 y2 y3 y4 y5 y6 y7)) ∧ (∀ y0 y1 y2 y3 y4 y5 y6 y7, LeO (hornbeamref21_New.l1 k y0 y1 y2 y3 y4 y5 y6 y7) (hornbeamref21_New.l1 (k + 1) y0 y1 y2 y3 y4 y5 y6 y7))
 | 0 => ⟨fun _ _ _ r h => by simp [hornbeamref21_New.j0] at h, fun _ _ _ _ _ _ _ _ r h => by simp [hornbeamref21_New.l0] at h, fun _ _ _ _ _ _ _ _ r h => by simp [hornbeamref21_New.l1] at h⟩
 | k + 1 => by
  obtain ⟨ih0, ih1, ih2⟩ := hornbeamref21_New.mono_l k
  refine ⟨?_, ?_, ?_⟩
  ·intro y0 y1 y2
   unfold hornbeamref21_New.j0
   repeat' first
   | (with_reducible exact ih0 _ _ _)
   | (with_reducible exact ih1 _ _ _ _ _ _ _ _)
   | (with_reducible exact ih2 _ _ _ _ _ _ _ _)
   | (with_reducible exact LeO.refl _)
   | (with_reducible exact LeO.none _)
   | (with_reducible refine LeO.ite ?_ ?_)
   | (with_reducible refine LeO.bind ?_ (fun _ => ?_))
   | exact ih0 _ _ _
   | exact ih1 _ _ _ _ _ _ _ _
   | exact ih2 _ _ _ _ _ _ _ _
   | exact LeO.none _
   | refine LeO.ite ?_ ?_
   | refine LeO.bind ?_ (fun _ => ?_)
  ·intro y0 y1 y2 y3 y4 y5 y6 y7
   unfold hornbeamref21_New.l0
   repeat' first
   | (with_reducible exact ih0 _ _ _)
   | (with_reducible exact ih1 _ _ _ _ _ _ _ _)
   | (with_reducible exact ih2 _ _ _ _ _ _ _ _)
   | (with_reducible exact LeO.refl _)
   | (with_reducible exact LeO.none _)
   | (with_reducible refine LeO.ite ?_ ?_)
   | (with_reducible refine LeO.bind ?_ (fun _ => ?_))
   | exact ih0 _ _ _
   | exact ih1 _ _ _ _ _ _ _ _
   | exact ih2 _ _ _ _ _ _ _ _
   | exact LeO.none _
   | refine LeO.ite ?_ ?_
   | refine LeO.bind ?_ (fun _ => ?_)
  ·intro y0 y1 y2 y3 y4 y5 y6 y7
   unfold hornbeamref21_New.l1
   repeat' first
   | (with_reducible exact ih0 _ _ _)
   | (with_reducible exact ih1 _ _ _ _ _ _ _ _)
   | (with_reducible exact ih2 _ _ _ _ _ _ _ _)
   | (with_reducible exact LeO.refl _)
   | (with_reducible exact LeO.none _)
   | (with_reducible refine LeO.ite ?_ ?_)
   | (with_reducible refine LeO.bind ?_ (fun _ => ?_))
   | exact ih0 _ _ _
   | exact ih1 _ _ _ _ _ _ _ _
   | exact ih2 _ _ _ _ _ _ _ _
   | exact LeO.none _
   | refine LeO.ite ?_ ?_
   | refine LeO.bind ?_ (fun _ => ?_)
theorem hornbeamref21_New.mono : ∀ a0 a1 k, LeO (hornbeamref21_New.f k a0 a1) (hornbeamref21_New.f (k + 1) a0 a1) := by
 intro a0 a1 k
 obtain ⟨ih0, ih1, ih2⟩ := hornbeamref21_New.mono_l k
 unfold hornbeamref21_New.f
 repeat' first
   | (with_reducible exact ih0 _ _ _)
   | (with_reducible exact ih1 _ _ _ _ _ _ _ _)
   | (with_reducible exact ih2 _ _ _ _ _ _ _ _)
   | (with_reducible exact LeO.refl _)
   | (with_reducible exact LeO.none _)
   | (with_reducible refine LeO.ite ?_ ?_)
   | (with_reducible refine LeO.bind ?_ (fun _ => ?_))
   | exact ih0 _ _ _
   | exact ih1 _ _ _ _ _ _ _ _
   | exact ih2 _ _ _ _ _ _ _ _
   | exact LeO.none _
   | refine LeO.ite ?_ ?_
   | refine LeO.bind ?_ (fun _ => ?_)
set_option maxHeartbeats 8000000 in
set_option maxRecDepth 100000 in
theorem hornbeamref21_New.calls (k : Nat) (a0 : Int) (a1 : Int) (r1 : Int) (r2 : Int) (r3 : Int) (r4 : List Int) (r5 : List Bool) (r6 : Bool) (r7 : Int) (w : World) (h : hornbeamref21_New.f k a0 a1 = some (r1, r2, r3, r4, r5, r6, r7)) :
  Calls Try.prog 55 #[.int .i64 a0, .int .i64 a1] w fun e w' => ∃ v3_ v4_ : Value, e = .returned (.tuple #[.agg #[.int .i64 r1, .int .i64 r2, .int .i64 r3, v3_, v4_, .bool r6], .int .i64 r7]) ∧ Kd.R (Kd.int .i64) 3 w' w.heap.size (fun _ => True) v3_ r4 ∧ Kd.R Kd.bool 4 w' w.heap.size (fun _ => True) v4_ r5 ∧ Below w.heap.size w w' := by
 have hu42 := Try.underlying42
 have HB := aaM (Below.refl w.heap.size w)
 have H : (if a0 < 0 then (hornbeamref21_New.j0 k a0 a1 true) else (if a0 > 1048576 then (hornbeamref21_New.j0 k a0 a1 true) else (if a1 < 1 then (hornbeamref21_New.j0 k a0 a1 true) else (hornbeamref21_New.j0 k a0 a1 (decide (a1 > 64)))))) = some (r1, r2, r3, r4, r5, r6, r7) := h
 clear h
 have HC3 := aaM H
 clear H
 go_enter Try.func55, Try.ntmps55
 go_upto_region 1 with (first | ((with_reducible refine gate_dst (N := 4) rfl ?_); refine box_event ?hg (N := 4) ?hd (cs := #[.int .i64 0, .int .i64 0, .int .i64 0, .slice none 0 0, .slice none 0 0, .bool false]) (t := 42) ?hr ?_; (case hd => rfl); (case hg => rfl); (case hr => first | (go_simp; done) | (go_simp; rfl)); intro gb203 hg w4 hbox hb; have n0_ := aaM (lP (by repeat (first | (with_reducible first | exact HB.out | apply lA | apply lN | apply lD) | exact HB.out)) hb); have n1_ := aaM (hbox); have n2_ := aaM ((by rw [hg]; exact (lZ (by repeat (first | (with_reducible first | exact HB.out | apply lA | apply lN | apply lD) | exact HB.out))) : w.heap.size ≤ gb203)); have n3_ := aaM ((by rw [hg]; exact (lZ (by repeat (first | (with_reducible first | exact HB.out | apply lA | apply lN | apply lD) | exact HB.out))) : w.heap.size ≤ gb203)); clear HB; have HB := n0_; have BK203 := n1_; have GW203 := n2_; have GE203 := n3_; clear n0_ n1_ n2_ n3_; clear hb hbox hg))
 (try simp only [Act.put, ssB, ssZ, ssS])
 go_cut [22] (fun v22 wc => ∃ (kq : Nat) (x22_2 : Bool), v22 = .bool x22_2 ∧ Aside0 (hornbeamref21_New.j0 kq a0 a1 x22_2 = some (r1, r2, r3, r4, r5, r6, r7)) ∧ Aside0 (kq ≤ k) ∧ Aside0 (wc.heap[gb203]? = some (.cells #[.int .i64 0, .int .i64 0, .int .i64 0, (.slice none 0 0), (.slice none 0 0), .bool false] 42 (0, 0))) ∧ Aside0 (Below w.heap.size w wc))
 case first =>
  have H := HC3.out
  clear HC3
  by_cases c5 : a0 < 0
  ·rw [if_pos c5] at H
   have c5b0 : decide (a0 < 0) = true := decide_eq_true c5
   clear c5
   (first | rw [c5b0] | (simp only [i64_w, i32_w]; rw [c5b0]) | skip)
   have H' := aaM H
   clear H
   go_wp2
   go_meet
   case rel => exact ⟨_, (true), (by first | rfl | (simp; done) | (simp [*]; done)), H', ⟨by first | omega | exact Nat.le_refl _⟩, ⟨by (with_reducible repeat (first | refine bN ?_ _ | refine bD ?_ | refine bA ?_ _)); exact BK203.out⟩, ⟨by repeat (first | (with_reducible first | exact HB.out | apply lA | apply lN | apply lD | refine lS ?_ GE203.out) | exact HB.out)⟩⟩
  ·rw [if_neg c5] at H
   have c5b0 : decide (a0 < 0) = false := decide_eq_false c5
   clear c5
   (first | rw [c5b0] | (simp only [i64_w, i32_w]; rw [c5b0]) | skip)
   by_cases c6 : a0 > 1048576
   ·rw [if_pos c6] at H
    have c6b0 : decide (1048576 < a0) = true := decide_eq_true c6
    clear c6
    have H' := aaM H
    clear H
    go_wp2
    go_meet
    case rel => exact ⟨_, (true), (by first | rfl | (simp; done) | (simp [*]; done)), H', ⟨by first | omega | exact Nat.le_refl _⟩, ⟨by (with_reducible repeat (first | refine bN ?_ _ | refine bD ?_ | refine bA ?_ _)); exact BK203.out⟩, ⟨by repeat (first | (with_reducible first | exact HB.out | apply lA | apply lN | apply lD | refine lS ?_ GE203.out) | exact HB.out)⟩⟩
   ·rw [if_neg c6] at H
    have c6b0 : decide (1048576 < a0) = false := decide_eq_false c6
    clear c6
    by_cases c7 : a1 < 1
    ·rw [if_pos c7] at H
     have c7b0 : decide (a1 < 1) = true := decide_eq_true c7
     clear c7
     have H' := aaM H
     clear H
     go_wp2
     go_meet
     case rel => exact ⟨_, (true), (by first | rfl | (simp; done) | (simp [*]; done)), H', ⟨by first | omega | exact Nat.le_refl _⟩, ⟨by (with_reducible repeat (first | refine bN ?_ _ | refine bD ?_ | refine bA ?_ _)); exact BK203.out⟩, ⟨by repeat (first | (with_reducible first | exact HB.out | apply lA | apply lN | apply lD | refine lS ?_ GE203.out) | exact HB.out)⟩⟩
    ·rw [if_neg c7] at H
     have c7b0 : decide (a1 < 1) = false := decide_eq_false c7
     clear c7
     have H' := aaM H
     clear H
     go_wp2
     go_meet
     case rel => exact ⟨_, (decide (a1 > 64)), (by first | rfl | (simp; done) | (simp [*]; done)), H', ⟨by first | omega | exact Nat.le_refl _⟩, ⟨by (with_reducible repeat (first | refine bN ?_ _ | refine bD ?_ | refine bA ?_ _)); exact BK203.out⟩, ⟨by repeat (first | (with_reducible first | exact HB.out | apply lA | apply lN | apply lD | refine lS ?_ GE203.out) | exact HB.out)⟩⟩
 case rest =>
  clear HC3
  try clear p2
  try clear c5
  try clear c5b0
  try clear c6
  try clear c6b0
  try clear c7
  try clear c7b0
  obtain ⟨kq, x22_2, rfl, HA, HJ2, BK203, HB⟩ := hcut
  cases kq with
  | zero => exact absurd HA.out (by simp [hornbeamref21_New.j0])
  | succ kj2 =>
   have H := HA.out
   clear HA
   simp only [hornbeamref21_New.j0] at H
   by_cases c8 : x22_2 = true
   ·subst c8
    have H1 : (some (0, 0, 0, ([] : List Int), ([] : List Bool), false, 1)) = some (r1, r2, r3, r4, r5, r6, r7) := by rw [if_pos rfl] at H; exact H
    clear H
    have H := H1
    clear H1
    simp only [Option.some.injEq, Prod.mk.injEq] at H
    obtain ⟨rfl, rfl, rfl, rfl, rfl, rfl, rfl⟩ := H
    have hcz9_0 : wc.cell? ⟨gb203, 0, none⟩ = some (.int .i64 0) := (bC BK203.out 0).trans rfl
    have hcz9_1 : wc.cell? ⟨gb203, 1, none⟩ = some (.int .i64 0) := (bC BK203.out 1).trans rfl
    have hcz9_2 : wc.cell? ⟨gb203, 2, none⟩ = some (.int .i64 0) := (bC BK203.out 2).trans rfl
    have hcz9_3 : wc.cell? ⟨gb203, 3, none⟩ = some (.slice none 0 0) := (bC BK203.out 3).trans rfl
    have hcz9_4 : wc.cell? ⟨gb203, 4, none⟩ = some (.slice none 0 0) := (bC BK203.out 4).trans rfl
    have hcz9_5 : wc.cell? ⟨gb203, 5, none⟩ = some (.bool false) := (bC BK203.out 5).trans rfl
    have hfz9_0 := bF BK203.out 0
    have hfz9_1 := bF BK203.out 1
    have hfz9_2 := bF BK203.out 2
    have hfz9_3 := bF BK203.out 3
    have hfz9_4 := bF BK203.out 4
    have hfz9_5 := bF BK203.out 5
    go_wp2
    refine bodyPost_ret (results_ct rfl _ _ gb203 42 #[.int .i64 0, .int .i64 0, .int .i64 0, .slice none 0 0, .slice none 0 0, .bool false] (0, 0) _ rfl (by (with_reducible repeat (first | refine bN ?_ _ | refine bD ?_ | refine bA ?_ _)); refine blk_put (cs := #[.int .i64 0, .int .i64 0, .int .i64 0, .slice none 0 0, .slice none 0 0, .bool false]) ?_ 5 _ rfl; (with_reducible repeat (first | refine bN ?_ _ | refine bD ?_ | refine bA ?_ _)); refine blk_put (cs := #[.int .i64 0, .int .i64 0, .int .i64 0, .slice none 0 0, .slice none 0 0, .bool false]) ?_ 4 _ rfl; (with_reducible repeat (first | refine bN ?_ _ | refine bD ?_ | refine bA ?_ _)); refine blk_put (cs := #[.int .i64 0, .int .i64 0, .int .i64 0, .slice none 0 0, .slice none 0 0, .bool false]) ?_ 3 _ rfl; (with_reducible repeat (first | refine bN ?_ _ | refine bD ?_ | refine bA ?_ _)); refine blk_put (cs := #[.int .i64 0, .int .i64 0, .int .i64 0, .slice none 0 0, .slice none 0 0, .bool false]) ?_ 2 _ rfl; (with_reducible repeat (first | refine bN ?_ _ | refine bD ?_ | refine bA ?_ _)); refine blk_put (cs := #[.int .i64 0, .int .i64 0, .int .i64 0, .slice none 0 0, .slice none 0 0, .bool false]) ?_ 1 _ rfl; (with_reducible repeat (first | refine bN ?_ _ | refine bD ?_ | refine bA ?_ _)); refine blk_put (cs := #[.int .i64 0, .int .i64 0, .int .i64 0, .slice none 0 0, .slice none 0 0, .bool false]) ?_ 0 _ rfl; (with_reducible repeat (first | refine bN ?_ _ | refine bD ?_ | refine bA ?_ _)); exact BK203.out) Try.underlying42 rfl (by kernel_rfl)) rfl ?_
    exact ⟨_, _, by first | rfl | (simp [errW_none, errW_some] <;> rfl) | (simp [*, errW_none, errW_some] <;> rfl), by first | exact Kd.R_nil _ _ _ _ _ | exact Kd.N_nil _ _ _ _ _ | exact Kd.V_nil _ _ _ _ _ | exact Kd.Q_nil _ _ _ _ _ | exact Kd.S_nil _ _ _ _ _, by first | exact Kd.R_nil _ _ _ _ _ | exact Kd.N_nil _ _ _ _ _ | exact Kd.V_nil _ _ _ _ _ | exact Kd.Q_nil _ _ _ _ _ | exact Kd.S_nil _ _ _ _ _, by repeat (first | (with_reducible first | exact HB.out | apply lA | apply lN | apply lD | refine lS ?_ GE203.out) | exact HB.out)⟩
   ·replace c8 := Bool.eq_false_iff.mpr c8
    subst c8
    have H1 : (hornbeamref21_New.l0 kj2 a0 a1 0 a0 a1 0 ([] : List Int) false) = some (r1, r2, r3, r4, r5, r6, r7) := by rw [if_neg (show ¬ (false = true) by decide)] at H; exact H
    clear H
    have H := H1
    clear H1
    have H' := aaM H
    clear H
    go_wp2_with (first | ((with_reducible refine gate_dst (N := 6) rfl ?_); refine box_event ?hg (N := 6) ?hd (cs := #[.int .i64 0, .int .i64 0, .int .i64 0, .slice none 0 0, .slice none 0 0, .bool false]) (t := 42) ?hr ?_; (case hd => rfl); (case hg => rfl); (case hr => first | (go_simp; done) | (go_simp; rfl)); intro gb204 hg w10 hbox hb; have n0_ := aaM (bB (g := gb203) (o := .cells #[.int .i64 0, .int .i64 0, .int .i64 0, .slice none 0 0, .slice none 0 0, .bool false] 42 (0, 0)) (by (with_reducible repeat (first | refine bN ?_ _ | refine bD ?_ | refine bA ?_ _)); exact BK203.out) hb); have n1_ := aaM (lP (by repeat (first | (with_reducible first | exact HB.out | apply lA | apply lN | apply lD | refine lS ?_ GE203.out) | exact HB.out)) hb); have n2_ := aaM (hbox); have n3_ := aaM ((by rw [hg]; exact (lZ (by repeat (first | (with_reducible first | exact HB.out | apply lA | apply lN | apply lD | refine lS ?_ GE203.out) | exact HB.out))) : w.heap.size ≤ gb204)); have n4_ := aaM ((by rw [hg]; exact (lZ (by repeat (first | (with_reducible first | exact HB.out | apply lA | apply lN | apply lD | refine lS ?_ GE203.out) | exact HB.out))) : w.heap.size ≤ gb204)); have n5_ := aaM ((by rw [hg]; exact Nat.ne_of_lt (bL (g := gb203) (by (with_reducible repeat (first | refine bN ?_ _ | refine bD ?_ | refine bA ?_ _)); exact BK203.out)) : gb203 ≠ gb204)); have n6_ := aaM ((by rw [hg]; exact Nat.ne_of_gt (bL (g := gb203) (by (with_reducible repeat (first | refine bN ?_ _ | refine bD ?_ | refine bA ?_ _)); exact BK203.out)) : gb204 ≠ gb203)); clear BK203; clear HB; have BK203 := n0_; have HB := n1_; have BK204 := n2_; have GW204 := n3_; have GE204 := n4_; have NB203_204 := n5_; have NB204_203 := n6_; clear n0_ n1_ n2_ n3_ n4_ n5_ n6_; clear hb hbox hg; have hnb11 := NB204_203.out; have hnc11 := NB203_204.out; have hcz12_0 : w10.cell? ⟨gb204, 0, none⟩ = some (.int .i64 0) := (bC BK204.out 0).trans rfl; have hcz12_1 : w10.cell? ⟨gb204, 1, none⟩ = some (.int .i64 0) := (bC BK204.out 1).trans rfl; have hcz12_2 : w10.cell? ⟨gb204, 2, none⟩ = some (.int .i64 0) := (bC BK204.out 2).trans rfl; have hcz12_3 : w10.cell? ⟨gb204, 3, none⟩ = some (.slice none 0 0) := (bC BK204.out 3).trans rfl; have hcz12_4 : w10.cell? ⟨gb204, 4, none⟩ = some (.slice none 0 0) := (bC BK204.out 4).trans rfl; have hcz12_5 : w10.cell? ⟨gb204, 5, none⟩ = some (.bool false) := (bC BK204.out 5).trans rfl; have hfz12_0 := bF BK204.out 0; have hfz12_1 := bF BK204.out 1; have hfz12_2 := bF BK204.out 2; have hfz12_3 := bF BK204.out 3; have hfz12_4 := bF BK204.out 4; have hfz12_5 := bF BK204.out 5))
    go_loopg [7] kj2 (fun kq v7 w' => ∃ (x7_2 : Int) (x205003_2 : List Int) (u205003 : Value), v7 = .int .i64 x7_2 ∧ Aside0 (hornbeamref21_New.l0 kq a0 a1 x7_2 a0 a1 0 x205003_2 false = some (r1, r2, r3, r4, r5, r6, r7)) ∧ Aside0 (kq ≤ kj2) ∧ Aside0 (Kd.R (Kd.int .i64) 3 w' w.heap.size (fun _ => True) u205003 x205003_2) ∧ Aside0 (w'.heap[gb203]? = some (.cells #[.int .i64 0, .int .i64 0, .int .i64 0, (.slice none 0 0), (.slice none 0 0), .bool false] 42 (0, 0))) ∧ Aside0 (w'.heap[gb204]? = some (.cells #[.int .i64 a0, .int .i64 a1, .int .i64 0, u205003, (.slice none 0 0), .bool false] 42 (0, 0))) ∧ Aside0 (Below w.heap.size w w'))
    case atStart => exact ⟨(0), (([] : List Int)), (.slice none 0 0), (by first | rfl | (simp; done) | (simp [*]; done)), H', ⟨Nat.le_refl _⟩, ⟨by first | exact Kd.R_nil _ _ _ _ _ | exact Kd.N_nil _ _ _ _ _ | exact Kd.V_nil _ _ _ _ _ | exact Kd.Q_nil _ _ _ _ _ | exact Kd.S_nil _ _ _ _ _⟩, ⟨by (with_reducible repeat (first | refine bN ?_ _ | refine bD ?_ | refine bA ?_ _)); refine blk_far ?_ NB203_204.out _; (with_reducible repeat (first | refine bN ?_ _ | refine bD ?_ | refine bA ?_ _)); refine blk_far ?_ NB203_204.out _; (with_reducible repeat (first | refine bN ?_ _ | refine bD ?_ | refine bA ?_ _)); refine blk_far ?_ NB203_204.out _; (with_reducible repeat (first | refine bN ?_ _ | refine bD ?_ | refine bA ?_ _)); refine blk_far ?_ NB203_204.out _; (with_reducible repeat (first | refine bN ?_ _ | refine bD ?_ | refine bA ?_ _)); refine blk_far ?_ NB203_204.out _; (with_reducible repeat (first | refine bN ?_ _ | refine bD ?_ | refine bA ?_ _)); refine blk_far ?_ NB203_204.out _; (with_reducible repeat (first | refine bN ?_ _ | refine bD ?_ | refine bA ?_ _)); exact BK203.out⟩, ⟨by (with_reducible repeat (first | refine bN ?_ _ | refine bD ?_ | refine bA ?_ _)); refine blk_put (cs := #[.int .i64 a0, .int .i64 a1, .int .i64 0, .slice none 0 0, .slice none 0 0, .bool false]) ?_ 5 _ rfl; (with_reducible repeat (first | refine bN ?_ _ | refine bD ?_ | refine bA ?_ _)); refine blk_put (cs := #[.int .i64 a0, .int .i64 a1, .int .i64 0, .slice none 0 0, .slice none 0 0, .bool false]) ?_ 4 _ rfl; (with_reducible repeat (first | refine bN ?_ _ | refine bD ?_ | refine bA ?_ _)); refine blk_put (cs := #[.int .i64 a0, .int .i64 a1, .int .i64 0, .slice none 0 0, .slice none 0 0, .bool false]) ?_ 3 _ rfl; (with_reducible repeat (first | refine bN ?_ _ | refine bD ?_ | refine bA ?_ _)); refine blk_put (cs := #[.int .i64 a0, .int .i64 a1, .int .i64 0, .slice none 0 0, .slice none 0 0, .bool false]) ?_ 2 _ rfl; (with_reducible repeat (first | refine bN ?_ _ | refine bD ?_ | refine bA ?_ _)); refine blk_put (cs := #[.int .i64 a0, .int .i64 0, .int .i64 0, .slice none 0 0, .slice none 0 0, .bool false]) ?_ 1 _ rfl; (with_reducible repeat (first | refine bN ?_ _ | refine bD ?_ | refine bA ?_ _)); refine blk_put (cs := #[.int .i64 0, .int .i64 0, .int .i64 0, .slice none 0 0, .slice none 0 0, .bool false]) ?_ 0 _ rfl; (with_reducible repeat (first | refine bN ?_ _ | refine bD ?_ | refine bA ?_ _)); exact BK204.out⟩, ⟨by repeat (first | (with_reducible first | exact HB.out | apply lA | apply lN | apply lD | refine lS ?_ GE203.out | refine lS ?_ GE204.out) | exact HB.out)⟩⟩
    case round =>
     clear H'
     try clear c1
     try clear p2
     try clear c5
     try clear c5b0
     try clear c6
     try clear c6b0
     try clear c7
     try clear c7b0
     try clear c8
     try clear c11
     try clear hcz12_0
     try clear hcz12_1
     try clear hcz12_2
     try clear hcz12_3
     try clear hcz12_4
     try clear hcz12_5
     try clear hcz9_0
     try clear hcz9_1
     try clear hcz9_2
     try clear hcz9_3
     try clear hcz9_4
     try clear hcz9_5
     try clear hfz12_0
     try clear hfz12_1
     try clear hfz12_2
     try clear hfz12_3
     try clear hfz12_4
     try clear hfz12_5
     try clear hfz9_0
     try clear hfz9_1
     try clear hfz9_2
     try clear hfz9_3
     try clear hfz9_4
     try clear hfz9_5
     try clear p2
     obtain ⟨x7_2, x205003_2, u205003, rfl, HA, HK2, HO_205003, BK203, BK204, HB⟩ := hrel
     cases gk with
     | zero => exact absurd HA.out (by simp [hornbeamref21_New.l0])
     | succ k2 =>
      have H := HA.out
      clear HA
      simp only [hornbeamref21_New.l0] at H
      by_cases c13 : x7_2 < a1
      ·rw [if_pos c13] at H
       have c13b0 : decide (x7_2 < a1) = true := decide_eq_true c13
       clear c13
       by_cases c14 : x205003_2.length < 17592186044416
       ·rw [if_pos c14] at H
        have LMc14 := aaM c14
        clear c14
        obtain ⟨y205, hy205⟩ : ∃ y_ : List Int, y_ = (x205003_2 ++ [(-1)]) := ⟨_, rfl⟩
        replace H : (hornbeamref21_New.l0 k2 a0 a1 (wrap64 (x7_2 + 1)) a0 a1 0 y205 false) = some (r1, r2, r3, r4, r5, r6, r7) := by first | (rw [hy205]; with_reducible exact H) | (have H2_ := (Option.bind_some _ _).symm.trans H; rw [hy205]; with_reducible exact H2_) | (have H2_ := (Option.bind_some _ _).symm.trans H; with_reducible exact H2_) | with_reducible exact H | (rw [hy205]; exact H) | exact H
        have Ny205 := aaM hy205
        clear hy205
        have H' := aaM H
        clear H
        have hnb15 := NB204_203.out
        have hnc15 := NB203_204.out
        have hcz16_0 : wr.cell? ⟨gb204, 0, none⟩ = some (.int .i64 a0) := (bC BK204.out 0).trans rfl
        have hcz16_1 : wr.cell? ⟨gb204, 1, none⟩ = some (.int .i64 a1) := (bC BK204.out 1).trans rfl
        have hcz16_2 : wr.cell? ⟨gb204, 2, none⟩ = some (.int .i64 0) := (bC BK204.out 2).trans rfl
        have hcz16_3 : wr.cell? ⟨gb204, 3, none⟩ = some (u205003) := (bC BK204.out 3).trans rfl
        have hcz16_4 : wr.cell? ⟨gb204, 4, none⟩ = some (.slice none 0 0) := (bC BK204.out 4).trans rfl
        have hcz16_5 : wr.cell? ⟨gb204, 5, none⟩ = some (.bool false) := (bC BK204.out 5).trans rfl
        have hfz16_0 := bF BK204.out 0
        have hfz16_1 := bF BK204.out 1
        have hfz16_2 := bF BK204.out 2
        have hfz16_3 := bF BK204.out 3
        have hfz16_4 := bF BK204.out 4
        have hfz16_5 := bF BK204.out 5
        go_wp2_with (first | ((with_reducible refine gate_builtin (b := .append) (xs := #[.tmp 33, .tmp 34]) rfl ?_); at_builtin; refine Kd.R_append (Kd.int .i64) (w0 := w) w.heap.size rfl (.tmp 33) (.tmp 34) 38 3 (.int .i64 0) 8 rfl Try.underlying38 info3 rfl (by decide) (by omega) u205003 x205003_2 (-1) [.int .i64 (-1)] (fun _ => True) (fun _ => False) rfl rfl ?aP (fun _ hk => hk.elim) ?aF ?aO ?aB ?aS ?aL ?_; (case aP => exact rfl); (case aB => exact (by repeat (first | (with_reducible first | exact HB.out | apply lA | apply lN | apply lD | refine lS ?_ GE203.out | refine lS ?_ GE204.out) | exact HB.out))); (case aF => exact (fun _ _ => trivial)); (case aO => exact (by (with_reducible repeat (first | apply rrA | apply rrN | apply rrD)); exact HO_205003.out)); (case aS => exact (lZ (by repeat (first | (with_reducible first | exact HB.out | apply lA | apply lN | apply lD | refine lS ?_ GE203.out | refine lS ?_ GE204.out) | exact HB.out)))); (case aL => have := LMc14.out; omega); intro v206 w17 ho hb hg hat; rw [← Ny205.out] at ho; have n0_ := aaM (blk_grown (g := gb203) (by (with_reducible repeat (first | refine bN ?_ _ | refine bD ?_ | refine bA ?_ _)); exact BK203.out) hg (Kd.R_ne HO_205003.out BK203.out (by decide))); have n1_ := aaM (blk_grown (g := gb204) (by (with_reducible repeat (first | refine bN ?_ _ | refine bD ?_ | refine bA ?_ _)); exact BK204.out) hg (Kd.R_ne HO_205003.out BK204.out (by decide))); have n2_ := aaM (hb); have n3_ := aaM (ho); clear BK203; clear BK204; clear HB; clear HO_205003; have BK203 := n0_; have BK204 := n1_; have HB := n2_; have HO207 := n3_; clear n0_ n1_ n2_ n3_; clear ho hb hg hat; obtain ⟨Ao18, co18, eo18⟩ := Kd.R_slice HO207.out; subst eo18; have hcz19_0 : w17.cell? ⟨gb204, 0, none⟩ = some (.int .i64 a0) := (bC BK204.out 0).trans rfl; have hcz19_1 : w17.cell? ⟨gb204, 1, none⟩ = some (.int .i64 a1) := (bC BK204.out 1).trans rfl; have hcz19_2 : w17.cell? ⟨gb204, 2, none⟩ = some (.int .i64 0) := (bC BK204.out 2).trans rfl; have hcz19_3 : w17.cell? ⟨gb204, 3, none⟩ = some (u205003) := (bC BK204.out 3).trans rfl; have hcz19_4 : w17.cell? ⟨gb204, 4, none⟩ = some (.slice none 0 0) := (bC BK204.out 4).trans rfl; have hcz19_5 : w17.cell? ⟨gb204, 5, none⟩ = some (.bool false) := (bC BK204.out 5).trans rfl; have hfz19_0 := bF BK204.out 0; have hfz19_1 := bF BK204.out 1; have hfz19_2 := bF BK204.out 2; have hfz19_3 := bF BK204.out 3; have hfz19_4 := bF BK204.out 4; have hfz19_5 := bF BK204.out 5))
        go_roundg k2
        case measure => have := HJ2.out; have := HK2.out; omega
        case rel => exact ⟨(wrap64 (x7_2 + 1)), (y205), (.slice Ao18 y205.length co18), (by first | rfl | (simp; done) | (simp [*]; done)), H', ⟨by have := HJ2.out; have := HK2.out; omega⟩, ⟨by (with_reducible repeat (first | apply rrA | apply rrN | apply rrD)); exact Kd.R_mono (rrF (p := ⟨gb204, 3, none⟩) (Kd.R_types HO207.out BK204.out (by decide)) (fun _ hk => hk.2) (.slice Ao18 y205.length co18)) (fun _ hk => trivial)⟩, ⟨by (with_reducible repeat (first | refine bN ?_ _ | refine bD ?_ | refine bA ?_ _)); refine blk_far ?_ NB203_204.out _; (with_reducible repeat (first | refine bN ?_ _ | refine bD ?_ | refine bA ?_ _)); exact BK203.out⟩, ⟨by (with_reducible repeat (first | refine bN ?_ _ | refine bD ?_ | refine bA ?_ _)); refine blk_put (cs := #[.int .i64 a0, .int .i64 a1, .int .i64 0, u205003, .slice none 0 0, .bool false]) ?_ 3 _ rfl; (with_reducible repeat (first | refine bN ?_ _ | refine bD ?_ | refine bA ?_ _)); exact BK204.out⟩, ⟨by repeat (first | (with_reducible first | exact HB.out | apply lA | apply lN | apply lD | refine lS ?_ GE203.out | refine lS ?_ GE204.out) | exact HB.out)⟩⟩
       ·rw [if_neg c14] at H
        exact absurd H (by simp)
      ·rw [if_neg c13] at H
       have c13b0 : decide (x7_2 < a1) = false := decide_eq_false c13
       clear c13
       have H' := aaM H
       clear H
       go_wp2
       go_loopg [8] k2 (fun kq v8 w' => ∃ (x8_3 : Int) (x205004_3 : List Bool) (u205004 : Value), v8 = .int .i64 x8_3 ∧ Aside0 (hornbeamref21_New.l1 kq a0 x8_3 a0 a1 0 x205003_2 x205004_3 false = some (r1, r2, r3, r4, r5, r6, r7)) ∧ Aside0 (kq ≤ k2) ∧ Aside0 (Kd.R (Kd.int .i64) 3 w' w.heap.size (fun _ => True) u205003 x205003_2) ∧ Aside0 (Kd.R Kd.bool 4 w' w.heap.size (fun _ => True) u205004 x205004_3) ∧ Aside0 (w'.heap[gb203]? = some (.cells #[.int .i64 0, .int .i64 0, .int .i64 0, (.slice none 0 0), (.slice none 0 0), .bool false] 42 (0, 0))) ∧ Aside0 (w'.heap[gb204]? = some (.cells #[.int .i64 a0, .int .i64 a1, .int .i64 0, u205003, u205004, .bool false] 42 (0, 0))) ∧ Aside0 (Below w.heap.size w w'))
       case atStart => exact ⟨(0), (([] : List Bool)), (.slice none 0 0), (by first | rfl | (simp; done) | (simp [*]; done)), H', ⟨Nat.le_refl _⟩, ⟨by (with_reducible repeat (first | apply rrA | apply rrN | apply rrD)); exact HO_205003.out⟩, ⟨by first | exact Kd.R_nil _ _ _ _ _ | exact Kd.N_nil _ _ _ _ _ | exact Kd.V_nil _ _ _ _ _ | exact Kd.Q_nil _ _ _ _ _ | exact Kd.S_nil _ _ _ _ _⟩, ⟨by (with_reducible repeat (first | refine bN ?_ _ | refine bD ?_ | refine bA ?_ _)); exact BK203.out⟩, ⟨by (with_reducible repeat (first | refine bN ?_ _ | refine bD ?_ | refine bA ?_ _)); exact BK204.out⟩, ⟨by repeat (first | (with_reducible first | exact HB.out | apply lA | apply lN | apply lD | refine lS ?_ GE203.out | refine lS ?_ GE204.out) | exact HB.out)⟩⟩
       case round =>
        clear H'
        try clear c1
        try clear p2
        try clear c5
        try clear c5b0
        try clear c6
        try clear c6b0
        try clear p6
        try clear c7
        try clear c7b0
        try clear c8
        try clear c11
        try clear c13
        try clear c13b0
        try clear c14
        try clear c15
        try clear hcz12_0
        try clear hcz12_1
        try clear hcz12_2
        try clear hcz12_3
        try clear hcz12_4
        try clear hcz12_5
        try clear hcz16_0
        try clear hcz16_1
        try clear hcz16_2
        try clear hcz16_3
        try clear hcz16_4
        try clear hcz16_5
        try clear hcz19_0
        try clear hcz19_1
        try clear hcz19_2
        try clear hcz19_3
        try clear hcz19_4
        try clear hcz19_5
        try clear hcz9_0
        try clear hcz9_1
        try clear hcz9_2
        try clear hcz9_3
        try clear hcz9_4
        try clear hcz9_5
        try clear hfz12_0
        try clear hfz12_1
        try clear hfz12_2
        try clear hfz12_3
        try clear hfz12_4
        try clear hfz12_5
        try clear hfz16_0
        try clear hfz16_1
        try clear hfz16_2
        try clear hfz16_3
        try clear hfz16_4
        try clear hfz16_5
        try clear hfz19_0
        try clear hfz19_1
        try clear hfz19_2
        try clear hfz19_3
        try clear hfz19_4
        try clear hfz19_5
        try clear hfz9_0
        try clear hfz9_1
        try clear hfz9_2
        try clear hfz9_3
        try clear hfz9_4
        try clear hfz9_5
        try clear p2
        obtain ⟨x8_3, x205004_3, u205004, rfl, HA, HK3, HO_205003, HO_205004, BK203, BK204, HB⟩ := hrel
        cases gk with
        | zero => exact absurd HA.out (by simp [hornbeamref21_New.l1])
        | succ k3 =>
         have H := HA.out
         clear HA
         simp only [hornbeamref21_New.l1] at H
         by_cases c20 : x8_3 < a0
         ·rw [if_pos c20] at H
          have c20b0 : decide (x8_3 < a0) = true := decide_eq_true c20
          clear c20
          by_cases c21 : x205004_3.length < 140737488355328
          ·rw [if_pos c21] at H
           have LMc21 := aaM c21
           clear c21
           obtain ⟨y208, hy208⟩ : ∃ y_ : List Bool, y_ = (x205004_3 ++ [false]) := ⟨_, rfl⟩
           replace H : (hornbeamref21_New.l1 k3 a0 (wrap64 (x8_3 + 1)) a0 a1 0 x205003_2 y208 false) = some (r1, r2, r3, r4, r5, r6, r7) := by first | (rw [hy208]; with_reducible exact H) | (have H2_ := (Option.bind_some _ _).symm.trans H; rw [hy208]; with_reducible exact H2_) | (have H2_ := (Option.bind_some _ _).symm.trans H; with_reducible exact H2_) | with_reducible exact H | (rw [hy208]; exact H) | exact H
           have Ny208 := aaM hy208
           clear hy208
           have H' := aaM H
           clear H
           have hnb22 := NB204_203.out
           have hnc22 := NB203_204.out
           have hcz23_0 : wr.cell? ⟨gb204, 0, none⟩ = some (.int .i64 a0) := (bC BK204.out 0).trans rfl
           have hcz23_1 : wr.cell? ⟨gb204, 1, none⟩ = some (.int .i64 a1) := (bC BK204.out 1).trans rfl
           have hcz23_2 : wr.cell? ⟨gb204, 2, none⟩ = some (.int .i64 0) := (bC BK204.out 2).trans rfl
           have hcz23_3 : wr.cell? ⟨gb204, 3, none⟩ = some (u205003) := (bC BK204.out 3).trans rfl
           have hcz23_4 : wr.cell? ⟨gb204, 4, none⟩ = some (u205004) := (bC BK204.out 4).trans rfl
           have hcz23_5 : wr.cell? ⟨gb204, 5, none⟩ = some (.bool false) := (bC BK204.out 5).trans rfl
           have hfz23_0 := bF BK204.out 0
           have hfz23_1 := bF BK204.out 1
           have hfz23_2 := bF BK204.out 2
           have hfz23_3 := bF BK204.out 3
           have hfz23_4 := bF BK204.out 4
           have hfz23_5 := bF BK204.out 5
           go_wp2_with (first | ((with_reducible refine gate_builtin (b := .append) (xs := #[.tmp 43, .tmp 44]) rfl ?_); at_builtin; refine Kd.R_append Kd.bool (w0 := w) w.heap.size rfl (.tmp 43) (.tmp 44) 40 4 (.bool false) 1 rfl Try.underlying40 info4 rfl (by decide) (by omega) u205004 x205004_3 false [.bool false] (fun _ => True) (fun _ => False) rfl rfl ?aP (fun _ hk => hk.elim) ?aF ?aO ?aB ?aS ?aL ?_; (case aP => exact rfl); (case aB => exact (by repeat (first | (with_reducible first | exact HB.out | apply lA | apply lN | apply lD | refine lS ?_ GE203.out | refine lS ?_ GE204.out) | exact HB.out))); (case aF => exact (fun _ _ => trivial)); (case aO => exact (by (with_reducible repeat (first | apply rrA | apply rrN | apply rrD)); exact HO_205004.out)); (case aS => exact (lZ (by repeat (first | (with_reducible first | exact HB.out | apply lA | apply lN | apply lD | refine lS ?_ GE203.out | refine lS ?_ GE204.out) | exact HB.out)))); (case aL => have := LMc21.out; omega); intro v209 w24 ho hb hg hat; rw [← Ny208.out] at ho; have n0_ := aaM (Kd.R_over' (by (with_reducible repeat (first | apply rrA | apply rrN | apply rrD)); exact HO_205003.out) (Kd.R_typed (by (with_reducible repeat (first | apply rrA | apply rrN | apply rrD)); exact HO_205004.out)) (by decide) hg); have n1_ := aaM (blk_grown (g := gb203) (by (with_reducible repeat (first | refine bN ?_ _ | refine bD ?_ | refine bA ?_ _)); exact BK203.out) hg (Kd.R_ne HO_205004.out BK203.out (by decide))); have n2_ := aaM (blk_grown (g := gb204) (by (with_reducible repeat (first | refine bN ?_ _ | refine bD ?_ | refine bA ?_ _)); exact BK204.out) hg (Kd.R_ne HO_205004.out BK204.out (by decide))); have n3_ := aaM (hb); have n4_ := aaM (ho); clear HO_205003; clear BK203; clear BK204; clear HB; clear HO_205004; have HO_205003 := n0_; have BK203 := n1_; have BK204 := n2_; have HB := n3_; have HO210 := n4_; clear n0_ n1_ n2_ n3_ n4_; clear ho hb hg hat; obtain ⟨Ao25, co25, eo25⟩ := Kd.R_slice HO210.out; subst eo25; have hcz26_0 : w24.cell? ⟨gb204, 0, none⟩ = some (.int .i64 a0) := (bC BK204.out 0).trans rfl; have hcz26_1 : w24.cell? ⟨gb204, 1, none⟩ = some (.int .i64 a1) := (bC BK204.out 1).trans rfl; have hcz26_2 : w24.cell? ⟨gb204, 2, none⟩ = some (.int .i64 0) := (bC BK204.out 2).trans rfl; have hcz26_3 : w24.cell? ⟨gb204, 3, none⟩ = some (u205003) := (bC BK204.out 3).trans rfl; have hcz26_4 : w24.cell? ⟨gb204, 4, none⟩ = some (u205004) := (bC BK204.out 4).trans rfl; have hcz26_5 : w24.cell? ⟨gb204, 5, none⟩ = some (.bool false) := (bC BK204.out 5).trans rfl; have hfz26_0 := bF BK204.out 0; have hfz26_1 := bF BK204.out 1; have hfz26_2 := bF BK204.out 2; have hfz26_3 := bF BK204.out 3; have hfz26_4 := bF BK204.out 4; have hfz26_5 := bF BK204.out 5))
           go_roundg k3
           case measure => have := HJ2.out; have := HK2.out; have := HK3.out; omega
           case rel => exact ⟨(wrap64 (x8_3 + 1)), (y208), (.slice Ao25 y208.length co25), (by first | rfl | (simp; done) | (simp [*]; done)), H', ⟨by have := HJ2.out; have := HK2.out; have := HK3.out; omega⟩, ⟨by (with_reducible repeat (first | apply rrA | apply rrN | apply rrD)); exact Kd.R_mono (rrF (p := ⟨gb204, 4, none⟩) (Kd.R_types HO_205003.out BK204.out (by decide)) (fun _ hk => hk.2) (.slice Ao25 y208.length co25)) (fun _ hk => trivial)⟩, ⟨by (with_reducible repeat (first | apply rrA | apply rrN | apply rrD)); exact Kd.R_mono (rrF (p := ⟨gb204, 4, none⟩) (Kd.R_types HO210.out BK204.out (by decide)) (fun _ hk => hk.2) (.slice Ao25 y208.length co25)) (fun _ hk => trivial)⟩, ⟨by (with_reducible repeat (first | refine bN ?_ _ | refine bD ?_ | refine bA ?_ _)); refine blk_far ?_ NB203_204.out _; (with_reducible repeat (first | refine bN ?_ _ | refine bD ?_ | refine bA ?_ _)); exact BK203.out⟩, ⟨by (with_reducible repeat (first | refine bN ?_ _ | refine bD ?_ | refine bA ?_ _)); refine blk_put (cs := #[.int .i64 a0, .int .i64 a1, .int .i64 0, u205003, u205004, .bool false]) ?_ 4 _ rfl; (with_reducible repeat (first | refine bN ?_ _ | refine bD ?_ | refine bA ?_ _)); exact BK204.out⟩, ⟨by repeat (first | (with_reducible first | exact HB.out | apply lA | apply lN | apply lD | refine lS ?_ GE203.out | refine lS ?_ GE204.out) | exact HB.out)⟩⟩
          ·rw [if_neg c21] at H
           exact absurd H (by simp)
         ·rw [if_neg c20] at H
          have c20b0 : decide (x8_3 < a0) = false := decide_eq_false c20
          clear c20
          simp only [Option.some.injEq, Prod.mk.injEq] at H
          obtain ⟨rfl, rfl, rfl, rfl, rfl, rfl, rfl⟩ := H
          have hnb27 := NB204_203.out
          have hnc27 := NB203_204.out
          have hcz28_0 : wr.cell? ⟨gb204, 0, none⟩ = some (.int .i64 a0) := (bC BK204.out 0).trans rfl
          have hcz28_1 : wr.cell? ⟨gb204, 1, none⟩ = some (.int .i64 a1) := (bC BK204.out 1).trans rfl
          have hcz28_2 : wr.cell? ⟨gb204, 2, none⟩ = some (.int .i64 0) := (bC BK204.out 2).trans rfl
          have hcz28_3 : wr.cell? ⟨gb204, 3, none⟩ = some (u205003) := (bC BK204.out 3).trans rfl
          have hcz28_4 : wr.cell? ⟨gb204, 4, none⟩ = some (u205004) := (bC BK204.out 4).trans rfl
          have hcz28_5 : wr.cell? ⟨gb204, 5, none⟩ = some (.bool false) := (bC BK204.out 5).trans rfl
          have hfz28_0 := bF BK204.out 0
          have hfz28_1 := bF BK204.out 1
          have hfz28_2 := bF BK204.out 2
          have hfz28_3 := bF BK204.out 3
          have hfz28_4 := bF BK204.out 4
          have hfz28_5 := bF BK204.out 5
          have hcz29_0 : wr.cell? ⟨gb203, 0, none⟩ = some (.int .i64 0) := (bC BK203.out 0).trans rfl
          have hcz29_1 : wr.cell? ⟨gb203, 1, none⟩ = some (.int .i64 0) := (bC BK203.out 1).trans rfl
          have hcz29_2 : wr.cell? ⟨gb203, 2, none⟩ = some (.int .i64 0) := (bC BK203.out 2).trans rfl
          have hcz29_3 : wr.cell? ⟨gb203, 3, none⟩ = some (.slice none 0 0) := (bC BK203.out 3).trans rfl
          have hcz29_4 : wr.cell? ⟨gb203, 4, none⟩ = some (.slice none 0 0) := (bC BK203.out 4).trans rfl
          have hcz29_5 : wr.cell? ⟨gb203, 5, none⟩ = some (.bool false) := (bC BK203.out 5).trans rfl
          have hfz29_0 := bF BK203.out 0
          have hfz29_1 := bF BK203.out 1
          have hfz29_2 := bF BK203.out 2
          have hfz29_3 := bF BK203.out 3
          have hfz29_4 := bF BK203.out 4
          have hfz29_5 := bF BK203.out 5
          obtain ⟨Ao30, co30, eo30⟩ := Kd.R_slice HO_205003.out
          subst eo30
          obtain ⟨Ao31, co31, eo31⟩ := Kd.R_slice HO_205004.out
          subst eo31
          go_wp2
          refine bodyPost_ret (results_ct rfl _ _ gb203 42 #[.int .i64 a0, .int .i64 a1, .int .i64 0, .slice Ao30 x205003_2.length co30, .slice Ao31 x205004_3.length co31, .bool false] (0, 0) _ rfl (by (with_reducible repeat (first | refine bN ?_ _ | refine bD ?_ | refine bA ?_ _)); refine blk_put (cs := #[.int .i64 a0, .int .i64 a1, .int .i64 0, .slice Ao30 x205003_2.length co30, .slice Ao31 x205004_3.length co31, .bool false]) ?_ 5 _ rfl; (with_reducible repeat (first | refine bN ?_ _ | refine bD ?_ | refine bA ?_ _)); refine blk_put (cs := #[.int .i64 a0, .int .i64 a1, .int .i64 0, .slice Ao30 x205003_2.length co30, .slice none 0 0, .bool false]) ?_ 4 _ rfl; (with_reducible repeat (first | refine bN ?_ _ | refine bD ?_ | refine bA ?_ _)); refine blk_put (cs := #[.int .i64 a0, .int .i64 a1, .int .i64 0, .slice none 0 0, .slice none 0 0, .bool false]) ?_ 3 _ rfl; (with_reducible repeat (first | refine bN ?_ _ | refine bD ?_ | refine bA ?_ _)); refine blk_put (cs := #[.int .i64 a0, .int .i64 a1, .int .i64 0, .slice none 0 0, .slice none 0 0, .bool false]) ?_ 2 _ rfl; (with_reducible repeat (first | refine bN ?_ _ | refine bD ?_ | refine bA ?_ _)); refine blk_put (cs := #[.int .i64 a0, .int .i64 0, .int .i64 0, .slice none 0 0, .slice none 0 0, .bool false]) ?_ 1 _ rfl; (with_reducible repeat (first | refine bN ?_ _ | refine bD ?_ | refine bA ?_ _)); refine blk_put (cs := #[.int .i64 0, .int .i64 0, .int .i64 0, .slice none 0 0, .slice none 0 0, .bool false]) ?_ 0 _ rfl; (with_reducible repeat (first | refine bN ?_ _ | refine bD ?_ | refine bA ?_ _)); exact BK203.out) Try.underlying42 rfl (by kernel_rfl)) rfl ?_
          exact ⟨_, _, by first | rfl | (simp [errW_none, errW_some] <;> rfl) | (simp [*, errW_none, errW_some] <;> rfl), by (with_reducible repeat (first | apply rrA | apply rrN | apply rrD)); exact Kd.R_mono (rrF (p := ⟨gb203, 5, none⟩) (rrF (p := ⟨gb203, 4, none⟩) (rrF (p := ⟨gb203, 3, none⟩) (rrF (p := ⟨gb203, 2, none⟩) (rrF (p := ⟨gb203, 1, none⟩) (rrF (p := ⟨gb203, 0, none⟩) (Kd.R_types HO_205003.out BK203.out (by decide)) (fun _ hk => hk.2) (.int .i64 a0)) (fun _ hk => hk.2) (.int .i64 a1)) (fun _ hk => hk.2) (.int .i64 0)) (fun _ hk => hk.2) (.slice Ao30 x205003_2.length co30)) (fun _ hk => hk.2) (.slice Ao31 x205004_3.length co31)) (fun _ hk => hk.2) (.bool false)) (fun _ hk => trivial), by (with_reducible repeat (first | apply rrA | apply rrN | apply rrD)); exact Kd.R_mono (rrF (p := ⟨gb203, 5, none⟩) (rrF (p := ⟨gb203, 4, none⟩) (rrF (p := ⟨gb203, 3, none⟩) (rrF (p := ⟨gb203, 2, none⟩) (rrF (p := ⟨gb203, 1, none⟩) (rrF (p := ⟨gb203, 0, none⟩) (Kd.R_types HO_205004.out BK203.out (by decide)) (fun _ hk => hk.2) (.int .i64 a0)) (fun _ hk => hk.2) (.int .i64 a1)) (fun _ hk => hk.2) (.int .i64 0)) (fun _ hk => hk.2) (.slice Ao30 x205003_2.length co30)) (fun _ hk => hk.2) (.slice Ao31 x205004_3.length co31)) (fun _ hk => hk.2) (.bool false)) (fun _ hk => trivial), by repeat (first | (with_reducible first | exact HB.out | apply lA | apply lN | apply lD | refine lS ?_ GE203.out | refine lS ?_ GE204.out) | exact HB.out)⟩

end Go.Proofs.Ytoonddgldmfleaa.QSchedPlays
