-- Written by a program of this session (wip/tools/mkprint.py over the kit's print); Lean checks it.
import Derived.Test.YtoonddgldmfleaaQSchedPlaysx0
import Derived.Test.YtoonddgldmfleaaQSchedPlaysx4
namespace Go.Proofs.Ytoonddgldmfleaa.QSchedPlays
open Go.RowKit Go.Proofs.YtoonddgldmfleaaW.PrintWords Go.Proofs.YtoonddgldmfleaaW.PrintLast Go.Proofs.YtoonddgldmfleaaW.PrintMore
attribute [local go_sem] max2_int min2_int max_two min_two max_three min_three max_four min_four   -- for this text's walks alone
set_option linter.unusedVariables false
set_option linter.unusedSimpArgs false

/-! ### hornbeamref21_May: function 38 -/
mutual
def hornbeamref21_May.j0 : Nat → Bool → Int → Int → Int → List Int → List Bool → Bool → Option (Bool)
 | 0, _, _, _, _, _, _, _ => none
 | k + 1, x51, x156000, x156001, x156002, x156003, x156004, x156005 => if x51 = true then (some false) else (hornbeamref21_May.l0 k 0 x156000 x156001 x156002 x156003 x156004 x156005)
def hornbeamref21_May.l0 : Nat → Int → Int → Int → Int → List Int → List Bool → Bool → Option (Bool)
 | 0, _, _, _, _, _, _, _ => none
 | k + 1, x3, x156000, x156001, x156002, x156003, x156004, x156005 => if x3 < x156000 then ((hornbeamref21_does.f k x156000 x156001 x156002 x156003 x156004 x156005 x3).bind fun t156 => (if x3 ≥ x156002 then (if t156 > 0 then (hornbeamref21_May.j2 k x3 t156 true x156000 x156001 x156002 x156003 x156004 x156005) else (if 0 ≤ x3 then (if x3 < (x156004.length : Int) then (hornbeamref21_May.j2 k x3 t156 (rdOf false x156004 x3) x156000 x156001 x156002 x156003 x156004 x156005) else (none)) else (none))) else (hornbeamref21_May.j2 k x3 t156 false x156000 x156001 x156002 x156003 x156004 x156005))) else (hornbeamref21_May.l1 k 0 x156000 x156001 x156002 x156003 x156004 x156005)
def hornbeamref21_May.j2 : Nat → Int → Int → Bool → Int → Int → Int → List Int → List Bool → Bool → Option (Bool)
 | 0, _, _, _, _, _, _, _, _, _ => none
 | k + 1, x3, x4, x75, x156000, x156001, x156002, x156003, x156004, x156005 => if x75 = true then (some false) else (if x3 < x156002 then (if 0 ≤ x3 then (if x3 < (x156004.length : Int) then (if rdOf false x156004 x3 = true then (if x4 = 0 then (hornbeamref21_May.l0 k (wrap64 (x3 + 1)) x156000 x156001 x156002 x156003 x156004 x156005) else (some false)) else (if x4 = 1 then (hornbeamref21_May.l0 k (wrap64 (x3 + 1)) x156000 x156001 x156002 x156003 x156004 x156005) else (some false))) else (none)) else (none)) else (hornbeamref21_May.l0 k (wrap64 (x3 + 1)) x156000 x156001 x156002 x156003 x156004 x156005))
def hornbeamref21_May.l1 : Nat → Int → Int → Int → Int → List Int → List Bool → Bool → Option (Bool)
 | 0, _, _, _, _, _, _, _ => none
 | k + 1, x5, x156000, x156001, x156002, x156003, x156004, x156005 => if x5 < (x156003.length : Int) then (if 0 ≤ x5 then (if (rd x156003 x5) < (-2) then (hornbeamref21_May.j4 k x5 true x156000 x156001 x156002 x156003 x156004 x156005) else (hornbeamref21_May.j4 k x5 (decide ((rd x156003 x5) ≥ x156002)) x156000 x156001 x156002 x156003 x156004 x156005)) else (none)) else (if x156005 = true then ((hornbeamref21_does.f k x156000 x156001 x156002 x156003 x156004 x156005 (-2)).bind fun t161 => (some (t161 == x156001))) else (some true))
def hornbeamref21_May.j4 : Nat → Int → Bool → Int → Int → Int → List Int → List Bool → Bool → Option (Bool)
 | 0, _, _, _, _, _, _, _, _ => none
 | k + 1, x5, x125, x156000, x156001, x156002, x156003, x156004, x156005 => if x125 = true then (some false) else (if 0 ≤ x5 then (if x5 < (x156003.length : Int) then (if (rd x156003 x5) = (-2) then (if x156002 < x156000 then (some false) else (hornbeamref21_May.l1 k (wrap64 (x5 + 1)) x156000 x156001 x156002 x156003 x156004 x156005)) else (hornbeamref21_May.l1 k (wrap64 (x5 + 1)) x156000 x156001 x156002 x156003 x156004 x156005)) else (none)) else (none))
end
def hornbeamref21_May.f (k : Nat) (a0_0 : Int) (a0_1 : Int) (a0_2 : Int) (l0_3 : List Int) (l0_4 : List Bool) (a0_5 : Bool) : Option (Bool) := if a0_0 < 0 then (hornbeamref21_May.j0 k true a0_0 a0_1 a0_2 l0_3 l0_4 a0_5) else (if a0_0 > 1048576 then (hornbeamref21_May.j0 k true a0_0 a0_1 a0_2 l0_3 l0_4 a0_5) else (if a0_1 < 1 then (hornbeamref21_May.j0 k true a0_0 a0_1 a0_2 l0_3 l0_4 a0_5) else (if a0_1 > 64 then (hornbeamref21_May.j0 k true a0_0 a0_1 a0_2 l0_3 l0_4 a0_5) else (if (l0_3.length : Int) = a0_1 then (if (l0_4.length : Int) = a0_0 then (if a0_2 < 0 then (hornbeamref21_May.j0 k true a0_0 a0_1 a0_2 l0_3 l0_4 a0_5) else (hornbeamref21_May.j0 k (decide (a0_2 > a0_0)) a0_0 a0_1 a0_2 l0_3 l0_4 a0_5)) else (hornbeamref21_May.j0 k true a0_0 a0_1 a0_2 l0_3 l0_4 a0_5)) else (hornbeamref21_May.j0 k true a0_0 a0_1 a0_2 l0_3 l0_4 a0_5)))))
theorem hornbeamref21_May.mono_l : ∀ k, (∀ y0 y1 y2 y3 y4 y5 y6, LeO (hornbeamref21_May.j0 k y0 y1 y2 y3 y4 y5 y6) (hornbeamref21_May.j0 (k + 1) y0 y1 y2 y3 y4 y5 y6)) ∧ (∀ y0 y1 y2 y3 y4 y5 y6, LeO (hornbeamref21_May.l0 k y0 y1 y2 y3 y4 y5 y6) (hornbeamref21_May.l0 (k + 1) y0 y1 y2 y3 y4 y5 y6)) ∧ (∀ y0 y1 y2 y3 y4 y5 y6 y7 y8, LeO (hornbeamref21_May.j2 k y0 y1 y2 y3 y4 y5 y6 y7 y8) (hornbeamref21_May.j2 (k + 1) y0 y1 y2 y3 y4 y5 y6 y7 y8)) ∧ (∀ y0 y1 y2 y3 y4 y5 y6, LeO (hornbeamref21_May.l1 k y0 y1 y2 y3 y4 y5 y6) (hornbeamref21_May.l1 (k + 1) y0 y1 y2 y3 y4 y5 y6)) ∧ (∀ y0 y1 y2 y3 y4 y5 y6 y7, LeO (hornbeamref21_May.j4 k y0 y1 y2 y3 y4 y5 y6 y7) (hornbeamref21_May.j4 (k + 1) y0 y1 y2 y3 y4 y5 y6 y7))
 | 0 => ⟨fun _ _ _ _ _ _ _ r h => by simp [hornbeamref21_May.j0] at h, fun _ _ _ _ _ _ _ r h => by simp [hornbeamref21_May.l0] at h, fun _ _ _ _ _ _ _ _ _ r h => by simp [hornbeamref21_May.j2] at h, fun _ _ _ _ _ _ _ r h => by simp [hornbeamref21_May.l1] at h, fun _ _ _ _ _ _ _ _ r h => by simp [hornbeamref21_May.j4] at h⟩
 | k + 1 => by
  obtain ⟨ih0, ih1, ih2, ih3, ih4⟩ := hornbeamref21_May.mono_l k
  refine ⟨?_, ?_, ?_, ?_, ?_⟩
  ·intro y0 y1 y2 y3 y4 y5 y6
   unfold hornbeamref21_May.j0
   repeat' first
   | (with_reducible exact ih0 _ _ _ _ _ _ _)
   | (with_reducible exact ih1 _ _ _ _ _ _ _)
   | (with_reducible exact ih2 _ _ _ _ _ _ _ _ _)
   | (with_reducible exact ih3 _ _ _ _ _ _ _)
   | (with_reducible exact ih4 _ _ _ _ _ _ _ _)
   | (with_reducible exact hornbeamref21_does.mono _ _ _ _ _ _ _ _)
   | (with_reducible exact LeO.refl _)
   | (with_reducible exact LeO.none _)
   | (with_reducible refine LeO.ite ?_ ?_)
   | (with_reducible refine LeO.bind ?_ (fun _ => ?_))
   | exact ih0 _ _ _ _ _ _ _
   | exact ih1 _ _ _ _ _ _ _
   | exact ih2 _ _ _ _ _ _ _ _ _
   | exact ih3 _ _ _ _ _ _ _
   | exact ih4 _ _ _ _ _ _ _ _
   | exact hornbeamref21_does.mono _ _ _ _ _ _ _ _
   | exact LeO.none _
   | refine LeO.ite ?_ ?_
   | refine LeO.bind ?_ (fun _ => ?_)
  ·intro y0 y1 y2 y3 y4 y5 y6
   unfold hornbeamref21_May.l0
   repeat' first
   | (with_reducible exact ih0 _ _ _ _ _ _ _)
   | (with_reducible exact ih1 _ _ _ _ _ _ _)
   | (with_reducible exact ih2 _ _ _ _ _ _ _ _ _)
   | (with_reducible exact ih3 _ _ _ _ _ _ _)
   | (with_reducible exact ih4 _ _ _ _ _ _ _ _)
   | (with_reducible exact hornbeamref21_does.mono _ _ _ _ _ _ _ _)
   | (with_reducible exact LeO.refl _)
   | (with_reducible exact LeO.none _)
   | (with_reducible refine LeO.ite ?_ ?_)
   | (with_reducible refine LeO.bind ?_ (fun _ => ?_))
   | exact ih0 _ _ _ _ _ _ _
   | exact ih1 _ _ _ _ _ _ _
   | exact ih2 _ _ _ _ _ _ _ _ _
   | exact ih3 _ _ _ _ _ _ _
   | exact ih4 _ _ _ _ _ _ _ _
   | exact hornbeamref21_does.mono _ _ _ _ _ _ _ _
   | exact LeO.none _
   | refine LeO.ite ?_ ?_
   | refine LeO.bind ?_ (fun _ => ?_)
  ·intro y0 y1 y2 y3 y4 y5 y6 y7 y8
   unfold hornbeamref21_May.j2
   repeat' first
   | (with_reducible exact ih0 _ _ _ _ _ _ _)
   | (with_reducible exact ih1 _ _ _ _ _ _ _)
   | (with_reducible exact ih2 _ _ _ _ _ _ _ _ _)
   | (with_reducible exact ih3 _ _ _ _ _ _ _)
   | (with_reducible exact ih4 _ _ _ _ _ _ _ _)
   | (with_reducible exact hornbeamref21_does.mono _ _ _ _ _ _ _ _)
   | (with_reducible exact LeO.refl _)
   | (with_reducible exact LeO.none _)
   | (with_reducible refine LeO.ite ?_ ?_)
   | (with_reducible refine LeO.bind ?_ (fun _ => ?_))
   | exact ih0 _ _ _ _ _ _ _
   | exact ih1 _ _ _ _ _ _ _
   | exact ih2 _ _ _ _ _ _ _ _ _
   | exact ih3 _ _ _ _ _ _ _
   | exact ih4 _ _ _ _ _ _ _ _
   | exact hornbeamref21_does.mono _ _ _ _ _ _ _ _
   | exact LeO.none _
   | refine LeO.ite ?_ ?_
   | refine LeO.bind ?_ (fun _ => ?_)
  ·intro y0 y1 y2 y3 y4 y5 y6
   unfold hornbeamref21_May.l1
   repeat' first
   | (with_reducible exact ih0 _ _ _ _ _ _ _)
   | (with_reducible exact ih1 _ _ _ _ _ _ _)
   | (with_reducible exact ih2 _ _ _ _ _ _ _ _ _)
   | (with_reducible exact ih3 _ _ _ _ _ _ _)
   | (with_reducible exact ih4 _ _ _ _ _ _ _ _)
   | (with_reducible exact hornbeamref21_does.mono _ _ _ _ _ _ _ _)
   | (with_reducible exact LeO.refl _)
   | (with_reducible exact LeO.none _)
   | (with_reducible refine LeO.ite ?_ ?_)
   | (with_reducible refine LeO.bind ?_ (fun _ => ?_))
   | exact ih0 _ _ _ _ _ _ _
   | exact ih1 _ _ _ _ _ _ _
   | exact ih2 _ _ _ _ _ _ _ _ _
   | exact ih3 _ _ _ _ _ _ _
   | exact ih4 _ _ _ _ _ _ _ _
   | exact hornbeamref21_does.mono _ _ _ _ _ _ _ _
   | exact LeO.none _
   | refine LeO.ite ?_ ?_
   | refine LeO.bind ?_ (fun _ => ?_)
  ·intro y0 y1 y2 y3 y4 y5 y6 y7
   unfold hornbeamref21_May.j4
   repeat' first
   | (with_reducible exact ih0 _ _ _ _ _ _ _)
   | (with_reducible exact ih1 _ _ _ _ _ _ _)
   | (with_reducible exact ih2 _ _ _ _ _ _ _ _ _)
   | (with_reducible exact ih3 _ _ _ _ _ _ _)
   | (with_reducible exact ih4 _ _ _ _ _ _ _ _)
   | (with_reducible exact hornbeamref21_does.mono _ _ _ _ _ _ _ _)
   | (with_reducible exact LeO.refl _)
   | (with_reducible exact LeO.none _)
   | (with_reducible refine LeO.ite ?_ ?_)
   | (with_reducible refine LeO.bind ?_ (fun _ => ?_))
   | exact ih0 _ _ _ _ _ _ _
   | exact ih1 _ _ _ _ _ _ _
   | exact ih2 _ _ _ _ _ _ _ _ _
   | exact ih3 _ _ _ _ _ _ _
   | exact ih4 _ _ _ _ _ _ _ _
   | exact hornbeamref21_does.mono _ _ _ _ _ _ _ _
   | exact LeO.none _
   | refine LeO.ite ?_ ?_
   | refine LeO.bind ?_ (fun _ => ?_)
theorem hornbeamref21_May.mono : ∀ a0 a1 a2 a3 a4 a5 k, LeO (hornbeamref21_May.f k a0 a1 a2 a3 a4 a5) (hornbeamref21_May.f (k + 1) a0 a1 a2 a3 a4 a5) := by
 intro a0 a1 a2 a3 a4 a5 k
 obtain ⟨ih0, ih1, ih2, ih3, ih4⟩ := hornbeamref21_May.mono_l k
 unfold hornbeamref21_May.f
 repeat' first
   | (with_reducible exact ih0 _ _ _ _ _ _ _)
   | (with_reducible exact ih1 _ _ _ _ _ _ _)
   | (with_reducible exact ih2 _ _ _ _ _ _ _ _ _)
   | (with_reducible exact ih3 _ _ _ _ _ _ _)
   | (with_reducible exact ih4 _ _ _ _ _ _ _ _)
   | (with_reducible exact hornbeamref21_does.mono _ _ _ _ _ _ _ _)
   | (with_reducible exact LeO.refl _)
   | (with_reducible exact LeO.none _)
   | (with_reducible refine LeO.ite ?_ ?_)
   | (with_reducible refine LeO.bind ?_ (fun _ => ?_))
   | exact ih0 _ _ _ _ _ _ _
   | exact ih1 _ _ _ _ _ _ _
   | exact ih2 _ _ _ _ _ _ _ _ _
   | exact ih3 _ _ _ _ _ _ _
   | exact ih4 _ _ _ _ _ _ _ _
   | exact hornbeamref21_does.mono _ _ _ _ _ _ _ _
   | exact LeO.none _
   | refine LeO.ite ?_ ?_
   | refine LeO.bind ?_ (fun _ => ?_)
def hornbeamref21_May.T14 : Bool × List (List Nat × List Nat) := (true, [([], []), ([0], [0]), ([], []), ([1, 2], [1, 2]), ([3], [3]), ([4], [4]), ([5], [5]), ([6], [6]), ([7, 6], [6, 7]), ([6], [6]), ([8, 9, 6], [6, 8, 9]), ([10, 6], [6, 10]), ([6], [6]), ([12, 6], [6, 12]), ([11, 13, 6], [6, 11, 13]), ([6, 14], [6, 14])])
def hornbeamref21_May.B14 : List Nat := [0, 1, 0, 7, 15, 31, 63, 127, 255, 127, 1023, 2047, 127, 4223, 16383, 32767]
theorem hornbeamref21_May.tab14 : rtab .any (opsOf Try.f38 14) = hornbeamref21_May.T14 := by kernel_rfl
theorem hornbeamref21_May.bits14 : waitsOk hornbeamref21_May.T14.2 hornbeamref21_May.B14 = true := by kernel_rfl
def hornbeamref21_May.T18 : Bool × List (List Nat × List Nat) := (true, [([], []), ([0], [0]), ([1], [1]), ([2], [2]), ([3], [3]), ([4, 3, 3], [3, 4]), ([3], [3]), ([6, 3], [3, 6]), ([5, 7, 3], [3, 5, 7]), ([3, 8], [3, 8]), ([9, 5, 0, 1, 2, 3, 4, 5, 6, 7, 8, 9], [9])])
def hornbeamref21_May.B18 : List Nat := [0, 1, 3, 7, 15, 31, 15, 79, 255, 511, 1023]
theorem hornbeamref21_May.tab18 : rtab .any (opsOf Try.f38 18) = hornbeamref21_May.T18 := by kernel_rfl
theorem hornbeamref21_May.bits18 : waitsOk hornbeamref21_May.T18.2 hornbeamref21_May.B18 = true := by kernel_rfl
set_option maxHeartbeats 8000000 in
set_option maxRecDepth 100000 in
theorem hornbeamref21_May.calls (k : Nat) (a0_0 : Int) (a0_1 : Int) (a0_2 : Int) (A0_3 : Option Addr) (c0_3 : Nat) (l0_3 : List Int) (A0_4 : Option Addr) (c0_4 : Nat) (l0_4 : List Bool) (a0_5 : Bool) (r : Bool) (w : World) (hr0_3 : Kd.C (Kd.int .i64) w A0_3 l0_3.length l0_3) (hc0_3 : l0_3.length ≤ c0_3) (hr0_4 : Kd.C Kd.bool w A0_4 l0_4.length l0_4) (hc0_4 : l0_4.length ≤ c0_4) (h : hornbeamref21_May.f k a0_0 a0_1 a0_2 l0_3 l0_4 a0_5 = some r) :
  Calls Try.prog 38 #[.agg #[.int .i64 a0_0, .int .i64 a0_1, .int .i64 a0_2, .slice A0_3 l0_3.length c0_3, .slice A0_4 l0_4.length c0_4, .bool a0_5]] w fun e w' => e = .returned (.bool r) ∧ Below w.heap.size w w' := by
 have hu42 := Try.underlying42
 have HR0_3 := aaM hr0_3
 have HC0_3 := aaM hc0_3
 clear hr0_3 hc0_3
 have HR0_4 := aaM hr0_4
 have HC0_4 := aaM hc0_4
 clear hr0_4 hc0_4
 have HB := aaM (Below.refl w.heap.size w)
 have H : (if a0_0 < 0 then (hornbeamref21_May.j0 k true a0_0 a0_1 a0_2 l0_3 l0_4 a0_5) else (if a0_0 > 1048576 then (hornbeamref21_May.j0 k true a0_0 a0_1 a0_2 l0_3 l0_4 a0_5) else (if a0_1 < 1 then (hornbeamref21_May.j0 k true a0_0 a0_1 a0_2 l0_3 l0_4 a0_5) else (if a0_1 > 64 then (hornbeamref21_May.j0 k true a0_0 a0_1 a0_2 l0_3 l0_4 a0_5) else (if (l0_3.length : Int) = a0_1 then (if (l0_4.length : Int) = a0_0 then (if a0_2 < 0 then (hornbeamref21_May.j0 k true a0_0 a0_1 a0_2 l0_3 l0_4 a0_5) else (hornbeamref21_May.j0 k (decide (a0_2 > a0_0)) a0_0 a0_1 a0_2 l0_3 l0_4 a0_5)) else (hornbeamref21_May.j0 k true a0_0 a0_1 a0_2 l0_3 l0_4 a0_5)) else (hornbeamref21_May.j0 k true a0_0 a0_1 a0_2 l0_3 l0_4 a0_5)))))) = some r := h
 clear h
 have HC2 := aaM H
 clear H
 go_enter Try.func38, Try.ntmps38
 go_upto_region 1 with (first | ((with_reducible refine gate_dst (N := 1) rfl ?_); (try (refine gate_guard (by rfl) ?_; dsimp only)); refine box_event ?hg (N := 1) ?hd (cs := #[.int .i64 a0_0, .int .i64 a0_1, .int .i64 a0_2, .slice A0_3 l0_3.length c0_3, .slice A0_4 l0_4.length c0_4, .bool a0_5]) (t := 42) ?hr ?_; (case hd => rfl); (case hg => rfl); (case hr => first | (go_simp; done) | (go_simp; rfl)); intro gb155 hg w3 hbox hb; have n0_ := aaM (lP (by repeat (first | (with_reducible first | exact HB.out | apply lA | apply lN | apply lD) | exact HB.out)) hb); have n1_ := aaM (hbox); have n2_ := aaM ((by rw [hg]; exact (lZ (by repeat (first | (with_reducible first | exact HB.out | apply lA | apply lN | apply lD) | exact HB.out))) : w.heap.size ≤ gb155)); have n3_ := aaM ((by rw [hg]; exact (lZ (by repeat (first | (with_reducible first | exact HB.out | apply lA | apply lN | apply lD) | exact HB.out))) : w.heap.size ≤ gb155)); clear HB; have HB := n0_; have BK155 := n1_; have GW155 := n2_; have GE155 := n3_; clear n0_ n1_ n2_ n3_; clear hb hbox hg))
 (try simp only [Act.put, ssB, ssZ, ssS])
 go_cut [51] (fun v51 wc => ∃ (kq : Nat) (x51_1 : Bool), v51 = .bool x51_1 ∧ Aside0 (hornbeamref21_May.j0 kq x51_1 a0_0 a0_1 a0_2 l0_3 l0_4 a0_5 = some r) ∧ Aside0 (kq ≤ k) ∧ Aside0 (wc.heap[gb155]? = some (.cells #[.int .i64 a0_0, .int .i64 a0_1, .int .i64 a0_2, (.slice A0_3 l0_3.length c0_3), (.slice A0_4 l0_4.length c0_4), .bool a0_5] 42 (0, 0))) ∧ Aside0 (Below w.heap.size w wc))
 case first =>
  have H := HC2.out
  clear HC2
  by_cases c4 : a0_0 < 0
  ·rw [if_pos c4] at H
   have c4b0 : decide (a0_0 < 0) = true := decide_eq_true c4
   clear c4
   (first | rw [c4b0] | (simp only [i64_w, i32_w]; rw [c4b0]) | skip)
   have H' := aaM H
   clear H
   have hcz5_0 : w3.cell? ⟨gb155, 0, none⟩ = some (.int .i64 a0_0) := (bC BK155.out 0).trans rfl
   have hcz5_1 : w3.cell? ⟨gb155, 1, none⟩ = some (.int .i64 a0_1) := (bC BK155.out 1).trans rfl
   have hcz5_2 : w3.cell? ⟨gb155, 2, none⟩ = some (.int .i64 a0_2) := (bC BK155.out 2).trans rfl
   have hcz5_3 : w3.cell? ⟨gb155, 3, none⟩ = some (.slice A0_3 l0_3.length c0_3) := (bC BK155.out 3).trans rfl
   have hcz5_4 : w3.cell? ⟨gb155, 4, none⟩ = some (.slice A0_4 l0_4.length c0_4) := (bC BK155.out 4).trans rfl
   have hcz5_5 : w3.cell? ⟨gb155, 5, none⟩ = some (.bool a0_5) := (bC BK155.out 5).trans rfl
   have hfz5_0 := bF BK155.out 0
   have hfz5_1 := bF BK155.out 1
   have hfz5_2 := bF BK155.out 2
   have hfz5_3 := bF BK155.out 3
   have hfz5_4 := bF BK155.out 4
   have hfz5_5 := bF BK155.out 5
   go_wp2
   go_meet
   case rel => exact ⟨_, (true), (by first | rfl | (simp; done) | (simp [*]; done)), H', ⟨by first | omega | exact Nat.le_refl _⟩, ⟨by (with_reducible repeat (first | refine bN ?_ _ | refine bD ?_ | refine bA ?_ _)); exact BK155.out⟩, ⟨by repeat (first | (with_reducible first | exact HB.out | apply lA | apply lN | apply lD | refine lS ?_ GE155.out) | exact HB.out)⟩⟩
  ·rw [if_neg c4] at H
   have c4b0 : decide (a0_0 < 0) = false := decide_eq_false c4
   clear c4
   (first | rw [c4b0] | (simp only [i64_w, i32_w]; rw [c4b0]) | skip)
   by_cases c6 : a0_0 > 1048576
   ·rw [if_pos c6] at H
    have c6b0 : decide (1048576 < a0_0) = true := decide_eq_true c6
    clear c6
    have H' := aaM H
    clear H
    have hcz7_0 : w3.cell? ⟨gb155, 0, none⟩ = some (.int .i64 a0_0) := (bC BK155.out 0).trans rfl
    have hcz7_1 : w3.cell? ⟨gb155, 1, none⟩ = some (.int .i64 a0_1) := (bC BK155.out 1).trans rfl
    have hcz7_2 : w3.cell? ⟨gb155, 2, none⟩ = some (.int .i64 a0_2) := (bC BK155.out 2).trans rfl
    have hcz7_3 : w3.cell? ⟨gb155, 3, none⟩ = some (.slice A0_3 l0_3.length c0_3) := (bC BK155.out 3).trans rfl
    have hcz7_4 : w3.cell? ⟨gb155, 4, none⟩ = some (.slice A0_4 l0_4.length c0_4) := (bC BK155.out 4).trans rfl
    have hcz7_5 : w3.cell? ⟨gb155, 5, none⟩ = some (.bool a0_5) := (bC BK155.out 5).trans rfl
    have hfz7_0 := bF BK155.out 0
    have hfz7_1 := bF BK155.out 1
    have hfz7_2 := bF BK155.out 2
    have hfz7_3 := bF BK155.out 3
    have hfz7_4 := bF BK155.out 4
    have hfz7_5 := bF BK155.out 5
    go_wp2
    go_meet
    case rel => exact ⟨_, (true), (by first | rfl | (simp; done) | (simp [*]; done)), H', ⟨by first | omega | exact Nat.le_refl _⟩, ⟨by (with_reducible repeat (first | refine bN ?_ _ | refine bD ?_ | refine bA ?_ _)); exact BK155.out⟩, ⟨by repeat (first | (with_reducible first | exact HB.out | apply lA | apply lN | apply lD | refine lS ?_ GE155.out) | exact HB.out)⟩⟩
   ·rw [if_neg c6] at H
    have c6b0 : decide (1048576 < a0_0) = false := decide_eq_false c6
    clear c6
    by_cases c8 : a0_1 < 1
    ·rw [if_pos c8] at H
     have c8b0 : decide (a0_1 < 1) = true := decide_eq_true c8
     clear c8
     have H' := aaM H
     clear H
     have hcz9_0 : w3.cell? ⟨gb155, 0, none⟩ = some (.int .i64 a0_0) := (bC BK155.out 0).trans rfl
     have hcz9_1 : w3.cell? ⟨gb155, 1, none⟩ = some (.int .i64 a0_1) := (bC BK155.out 1).trans rfl
     have hcz9_2 : w3.cell? ⟨gb155, 2, none⟩ = some (.int .i64 a0_2) := (bC BK155.out 2).trans rfl
     have hcz9_3 : w3.cell? ⟨gb155, 3, none⟩ = some (.slice A0_3 l0_3.length c0_3) := (bC BK155.out 3).trans rfl
     have hcz9_4 : w3.cell? ⟨gb155, 4, none⟩ = some (.slice A0_4 l0_4.length c0_4) := (bC BK155.out 4).trans rfl
     have hcz9_5 : w3.cell? ⟨gb155, 5, none⟩ = some (.bool a0_5) := (bC BK155.out 5).trans rfl
     have hfz9_0 := bF BK155.out 0
     have hfz9_1 := bF BK155.out 1
     have hfz9_2 := bF BK155.out 2
     have hfz9_3 := bF BK155.out 3
     have hfz9_4 := bF BK155.out 4
     have hfz9_5 := bF BK155.out 5
     go_wp2
     go_meet
     case rel => exact ⟨_, (true), (by first | rfl | (simp; done) | (simp [*]; done)), H', ⟨by first | omega | exact Nat.le_refl _⟩, ⟨by (with_reducible repeat (first | refine bN ?_ _ | refine bD ?_ | refine bA ?_ _)); exact BK155.out⟩, ⟨by repeat (first | (with_reducible first | exact HB.out | apply lA | apply lN | apply lD | refine lS ?_ GE155.out) | exact HB.out)⟩⟩
    ·rw [if_neg c8] at H
     have c8b0 : decide (a0_1 < 1) = false := decide_eq_false c8
     clear c8
     by_cases c10 : a0_1 > 64
     ·rw [if_pos c10] at H
      have c10b0 : decide (64 < a0_1) = true := decide_eq_true c10
      clear c10
      have H' := aaM H
      clear H
      have hcz11_0 : w3.cell? ⟨gb155, 0, none⟩ = some (.int .i64 a0_0) := (bC BK155.out 0).trans rfl
      have hcz11_1 : w3.cell? ⟨gb155, 1, none⟩ = some (.int .i64 a0_1) := (bC BK155.out 1).trans rfl
      have hcz11_2 : w3.cell? ⟨gb155, 2, none⟩ = some (.int .i64 a0_2) := (bC BK155.out 2).trans rfl
      have hcz11_3 : w3.cell? ⟨gb155, 3, none⟩ = some (.slice A0_3 l0_3.length c0_3) := (bC BK155.out 3).trans rfl
      have hcz11_4 : w3.cell? ⟨gb155, 4, none⟩ = some (.slice A0_4 l0_4.length c0_4) := (bC BK155.out 4).trans rfl
      have hcz11_5 : w3.cell? ⟨gb155, 5, none⟩ = some (.bool a0_5) := (bC BK155.out 5).trans rfl
      have hfz11_0 := bF BK155.out 0
      have hfz11_1 := bF BK155.out 1
      have hfz11_2 := bF BK155.out 2
      have hfz11_3 := bF BK155.out 3
      have hfz11_4 := bF BK155.out 4
      have hfz11_5 := bF BK155.out 5
      go_wp2
      go_meet
      case rel => exact ⟨_, (true), (by first | rfl | (simp; done) | (simp [*]; done)), H', ⟨by first | omega | exact Nat.le_refl _⟩, ⟨by (with_reducible repeat (first | refine bN ?_ _ | refine bD ?_ | refine bA ?_ _)); exact BK155.out⟩, ⟨by repeat (first | (with_reducible first | exact HB.out | apply lA | apply lN | apply lD | refine lS ?_ GE155.out) | exact HB.out)⟩⟩
     ·rw [if_neg c10] at H
      have c10b0 : decide (64 < a0_1) = false := decide_eq_false c10
      clear c10
      by_cases c12 : (l0_3.length : Int) = a0_1
      ·rw [if_pos c12] at H
       have c12b0 : ((l0_3.length : Int) == a0_1) = true := beq_iff_eq.mpr c12
       have c12b1 : ((l0_3.length : Int) != a0_1) = false := bne_eq_false_iff_eq.mpr c12
       clear c12
       by_cases c13 : (l0_4.length : Int) = a0_0
       ·rw [if_pos c13] at H
        have c13b0 : ((l0_4.length : Int) == a0_0) = true := beq_iff_eq.mpr c13
        have c13b1 : ((l0_4.length : Int) != a0_0) = false := bne_eq_false_iff_eq.mpr c13
        clear c13
        by_cases c14 : a0_2 < 0
        ·rw [if_pos c14] at H
         have c14b0 : decide (a0_2 < 0) = true := decide_eq_true c14
         clear c14
         have H' := aaM H
         clear H
         have hcz15_0 : w3.cell? ⟨gb155, 0, none⟩ = some (.int .i64 a0_0) := (bC BK155.out 0).trans rfl
         have hcz15_1 : w3.cell? ⟨gb155, 1, none⟩ = some (.int .i64 a0_1) := (bC BK155.out 1).trans rfl
         have hcz15_2 : w3.cell? ⟨gb155, 2, none⟩ = some (.int .i64 a0_2) := (bC BK155.out 2).trans rfl
         have hcz15_3 : w3.cell? ⟨gb155, 3, none⟩ = some (.slice A0_3 l0_3.length c0_3) := (bC BK155.out 3).trans rfl
         have hcz15_4 : w3.cell? ⟨gb155, 4, none⟩ = some (.slice A0_4 l0_4.length c0_4) := (bC BK155.out 4).trans rfl
         have hcz15_5 : w3.cell? ⟨gb155, 5, none⟩ = some (.bool a0_5) := (bC BK155.out 5).trans rfl
         have hfz15_0 := bF BK155.out 0
         have hfz15_1 := bF BK155.out 1
         have hfz15_2 := bF BK155.out 2
         have hfz15_3 := bF BK155.out 3
         have hfz15_4 := bF BK155.out 4
         have hfz15_5 := bF BK155.out 5
         go_wp2
         go_meet
         case rel => exact ⟨_, (true), (by first | rfl | (simp; done) | (simp [*]; done)), H', ⟨by first | omega | exact Nat.le_refl _⟩, ⟨by (with_reducible repeat (first | refine bN ?_ _ | refine bD ?_ | refine bA ?_ _)); exact BK155.out⟩, ⟨by repeat (first | (with_reducible first | exact HB.out | apply lA | apply lN | apply lD | refine lS ?_ GE155.out) | exact HB.out)⟩⟩
        ·rw [if_neg c14] at H
         have c14b0 : decide (a0_2 < 0) = false := decide_eq_false c14
         clear c14
         have H' := aaM H
         clear H
         have hcz16_0 : w3.cell? ⟨gb155, 0, none⟩ = some (.int .i64 a0_0) := (bC BK155.out 0).trans rfl
         have hcz16_1 : w3.cell? ⟨gb155, 1, none⟩ = some (.int .i64 a0_1) := (bC BK155.out 1).trans rfl
         have hcz16_2 : w3.cell? ⟨gb155, 2, none⟩ = some (.int .i64 a0_2) := (bC BK155.out 2).trans rfl
         have hcz16_3 : w3.cell? ⟨gb155, 3, none⟩ = some (.slice A0_3 l0_3.length c0_3) := (bC BK155.out 3).trans rfl
         have hcz16_4 : w3.cell? ⟨gb155, 4, none⟩ = some (.slice A0_4 l0_4.length c0_4) := (bC BK155.out 4).trans rfl
         have hcz16_5 : w3.cell? ⟨gb155, 5, none⟩ = some (.bool a0_5) := (bC BK155.out 5).trans rfl
         have hfz16_0 := bF BK155.out 0
         have hfz16_1 := bF BK155.out 1
         have hfz16_2 := bF BK155.out 2
         have hfz16_3 := bF BK155.out 3
         have hfz16_4 := bF BK155.out 4
         have hfz16_5 := bF BK155.out 5
         go_wp2
         go_meet
         case rel => exact ⟨_, (decide (a0_2 > a0_0)), (by first | rfl | (simp; done) | (simp [*]; done)), H', ⟨by first | omega | exact Nat.le_refl _⟩, ⟨by (with_reducible repeat (first | refine bN ?_ _ | refine bD ?_ | refine bA ?_ _)); exact BK155.out⟩, ⟨by repeat (first | (with_reducible first | exact HB.out | apply lA | apply lN | apply lD | refine lS ?_ GE155.out) | exact HB.out)⟩⟩
       ·rw [if_neg c13] at H
        have c13b0 : ((l0_4.length : Int) == a0_0) = false := beq_eq_false_iff_ne.mpr c13
        have c13b1 : ((l0_4.length : Int) != a0_0) = true := bne_iff_ne.mpr c13
        have H' := aaM H
        clear H
        have hcz17_0 : w3.cell? ⟨gb155, 0, none⟩ = some (.int .i64 a0_0) := (bC BK155.out 0).trans rfl
        have hcz17_1 : w3.cell? ⟨gb155, 1, none⟩ = some (.int .i64 a0_1) := (bC BK155.out 1).trans rfl
        have hcz17_2 : w3.cell? ⟨gb155, 2, none⟩ = some (.int .i64 a0_2) := (bC BK155.out 2).trans rfl
        have hcz17_3 : w3.cell? ⟨gb155, 3, none⟩ = some (.slice A0_3 l0_3.length c0_3) := (bC BK155.out 3).trans rfl
        have hcz17_4 : w3.cell? ⟨gb155, 4, none⟩ = some (.slice A0_4 l0_4.length c0_4) := (bC BK155.out 4).trans rfl
        have hcz17_5 : w3.cell? ⟨gb155, 5, none⟩ = some (.bool a0_5) := (bC BK155.out 5).trans rfl
        have hfz17_0 := bF BK155.out 0
        have hfz17_1 := bF BK155.out 1
        have hfz17_2 := bF BK155.out 2
        have hfz17_3 := bF BK155.out 3
        have hfz17_4 := bF BK155.out 4
        have hfz17_5 := bF BK155.out 5
        go_wp2
        go_meet
        case rel => exact ⟨_, (true), (by first | rfl | (simp; done) | (simp [*]; done)), H', ⟨by first | omega | exact Nat.le_refl _⟩, ⟨by (with_reducible repeat (first | refine bN ?_ _ | refine bD ?_ | refine bA ?_ _)); exact BK155.out⟩, ⟨by repeat (first | (with_reducible first | exact HB.out | apply lA | apply lN | apply lD | refine lS ?_ GE155.out) | exact HB.out)⟩⟩
      ·rw [if_neg c12] at H
       have c12b0 : ((l0_3.length : Int) == a0_1) = false := beq_eq_false_iff_ne.mpr c12
       have c12b1 : ((l0_3.length : Int) != a0_1) = true := bne_iff_ne.mpr c12
       have H' := aaM H
       clear H
       have hcz18_0 : w3.cell? ⟨gb155, 0, none⟩ = some (.int .i64 a0_0) := (bC BK155.out 0).trans rfl
       have hcz18_1 : w3.cell? ⟨gb155, 1, none⟩ = some (.int .i64 a0_1) := (bC BK155.out 1).trans rfl
       have hcz18_2 : w3.cell? ⟨gb155, 2, none⟩ = some (.int .i64 a0_2) := (bC BK155.out 2).trans rfl
       have hcz18_3 : w3.cell? ⟨gb155, 3, none⟩ = some (.slice A0_3 l0_3.length c0_3) := (bC BK155.out 3).trans rfl
       have hcz18_4 : w3.cell? ⟨gb155, 4, none⟩ = some (.slice A0_4 l0_4.length c0_4) := (bC BK155.out 4).trans rfl
       have hcz18_5 : w3.cell? ⟨gb155, 5, none⟩ = some (.bool a0_5) := (bC BK155.out 5).trans rfl
       have hfz18_0 := bF BK155.out 0
       have hfz18_1 := bF BK155.out 1
       have hfz18_2 := bF BK155.out 2
       have hfz18_3 := bF BK155.out 3
       have hfz18_4 := bF BK155.out 4
       have hfz18_5 := bF BK155.out 5
       go_wp2
       go_meet
       case rel => exact ⟨_, (true), (by first | rfl | (simp; done) | (simp [*]; done)), H', ⟨by first | omega | exact Nat.le_refl _⟩, ⟨by (with_reducible repeat (first | refine bN ?_ _ | refine bD ?_ | refine bA ?_ _)); exact BK155.out⟩, ⟨by repeat (first | (with_reducible first | exact HB.out | apply lA | apply lN | apply lD | refine lS ?_ GE155.out) | exact HB.out)⟩⟩
 case rest =>
  clear HC2
  try clear c1
  try clear p2
  try clear c3
  try clear c4
  try clear c4b0
  try clear c6
  try clear c6b0
  try clear c8
  try clear c8b0
  try clear c10
  try clear c10b0
  try clear c12
  try clear c12b0
  try clear c12b1
  try clear c13
  try clear c13b0
  try clear c13b1
  try clear c14
  try clear c14b0
  try clear hcz11_0
  try clear hcz11_1
  try clear hcz11_2
  try clear hcz11_3
  try clear hcz11_4
  try clear hcz11_5
  try clear hcz15_0
  try clear hcz15_1
  try clear hcz15_2
  try clear hcz15_3
  try clear hcz15_4
  try clear hcz15_5
  try clear hcz16_0
  try clear hcz16_1
  try clear hcz16_2
  try clear hcz16_3
  try clear hcz16_4
  try clear hcz16_5
  try clear hcz17_0
  try clear hcz17_1
  try clear hcz17_2
  try clear hcz17_3
  try clear hcz17_4
  try clear hcz17_5
  try clear hcz18_0
  try clear hcz18_1
  try clear hcz18_2
  try clear hcz18_3
  try clear hcz18_4
  try clear hcz18_5
  try clear hcz5_0
  try clear hcz5_1
  try clear hcz5_2
  try clear hcz5_3
  try clear hcz5_4
  try clear hcz5_5
  try clear hcz7_0
  try clear hcz7_1
  try clear hcz7_2
  try clear hcz7_3
  try clear hcz7_4
  try clear hcz7_5
  try clear hcz9_0
  try clear hcz9_1
  try clear hcz9_2
  try clear hcz9_3
  try clear hcz9_4
  try clear hcz9_5
  try clear hfz11_0
  try clear hfz11_1
  try clear hfz11_2
  try clear hfz11_3
  try clear hfz11_4
  try clear hfz11_5
  try clear hfz15_0
  try clear hfz15_1
  try clear hfz15_2
  try clear hfz15_3
  try clear hfz15_4
  try clear hfz15_5
  try clear hfz16_0
  try clear hfz16_1
  try clear hfz16_2
  try clear hfz16_3
  try clear hfz16_4
  try clear hfz16_5
  try clear hfz17_0
  try clear hfz17_1
  try clear hfz17_2
  try clear hfz17_3
  try clear hfz17_4
  try clear hfz17_5
  try clear hfz18_0
  try clear hfz18_1
  try clear hfz18_2
  try clear hfz18_3
  try clear hfz18_4
  try clear hfz18_5
  try clear hfz5_0
  try clear hfz5_1
  try clear hfz5_2
  try clear hfz5_3
  try clear hfz5_4
  try clear hfz5_5
  try clear hfz7_0
  try clear hfz7_1
  try clear hfz7_2
  try clear hfz7_3
  try clear hfz7_4
  try clear hfz7_5
  try clear hfz9_0
  try clear hfz9_1
  try clear hfz9_2
  try clear hfz9_3
  try clear hfz9_4
  try clear hfz9_5
  obtain ⟨kq, x51_1, rfl, HA, HJ1, BK155, HB⟩ := hcut
  cases kq with
  | zero => exact absurd HA.out (by simp [hornbeamref21_May.j0])
  | succ kj1 =>
   have H := HA.out
   clear HA
   simp only [hornbeamref21_May.j0] at H
   by_cases c19 : x51_1 = true
   ·subst c19
    have H1 : (some false) = some r := by rw [if_pos rfl] at H; exact H
    clear H
    have H := H1
    clear H1
    obtain rfl := Option.some.inj H
    go_wp2
    all_goals (go_ret; exact ⟨by first | rfl | (simp [errW_none, errW_some] <;> rfl) | (simp [*, errW_none, errW_some] <;> rfl) | (simp_all; done), by repeat (first | (with_reducible first | exact HB.out | apply lA | apply lN | apply lD | refine lS ?_ GE155.out) | exact HB.out)⟩)
   ·replace c19 := Bool.eq_false_iff.mpr c19
    subst c19
    have H1 : (hornbeamref21_May.l0 kj1 0 a0_0 a0_1 a0_2 l0_3 l0_4 a0_5) = some r := by rw [if_neg (show ¬ (false = true) by decide)] at H; exact H
    clear H
    have H := H1
    clear H1
    have H' := aaM H
    clear H
    go_wp2
    go_loopg [3] kj1 (fun kq v3 w' => ∃ (x3_2 : Int), v3 = .int .i64 x3_2 ∧ Aside0 (hornbeamref21_May.l0 kq x3_2 a0_0 a0_1 a0_2 l0_3 l0_4 a0_5 = some r) ∧ Aside0 (kq ≤ kj1) ∧ Aside0 (w'.heap[gb155]? = some (.cells #[.int .i64 a0_0, .int .i64 a0_1, .int .i64 a0_2, (.slice A0_3 l0_3.length c0_3), (.slice A0_4 l0_4.length c0_4), .bool a0_5] 42 (0, 0))) ∧ Aside0 (Below w.heap.size w w'))
    case atStart => exact ⟨(0), (by first | rfl | (simp; done) | (simp [*]; done)), H', ⟨Nat.le_refl _⟩, ⟨by (with_reducible repeat (first | refine bN ?_ _ | refine bD ?_ | refine bA ?_ _)); exact BK155.out⟩, ⟨by repeat (first | (with_reducible first | exact HB.out | apply lA | apply lN | apply lD | refine lS ?_ GE155.out) | exact HB.out)⟩⟩
    case round =>
     clear H'
     try clear c1
     try clear p2
     try clear c3
     try clear c4
     try clear c4b0
     try clear c6
     try clear c6b0
     try clear c8
     try clear c8b0
     try clear c10
     try clear c10b0
     try clear c12
     try clear c12b0
     try clear c12b1
     try clear c13
     try clear c13b0
     try clear c13b1
     try clear c14
     try clear c14b0
     try clear c19
     try clear hcz11_0
     try clear hcz11_1
     try clear hcz11_2
     try clear hcz11_3
     try clear hcz11_4
     try clear hcz11_5
     try clear hcz15_0
     try clear hcz15_1
     try clear hcz15_2
     try clear hcz15_3
     try clear hcz15_4
     try clear hcz15_5
     try clear hcz16_0
     try clear hcz16_1
     try clear hcz16_2
     try clear hcz16_3
     try clear hcz16_4
     try clear hcz16_5
     try clear hcz17_0
     try clear hcz17_1
     try clear hcz17_2
     try clear hcz17_3
     try clear hcz17_4
     try clear hcz17_5
     try clear hcz18_0
     try clear hcz18_1
     try clear hcz18_2
     try clear hcz18_3
     try clear hcz18_4
     try clear hcz18_5
     try clear hcz5_0
     try clear hcz5_1
     try clear hcz5_2
     try clear hcz5_3
     try clear hcz5_4
     try clear hcz5_5
     try clear hcz7_0
     try clear hcz7_1
     try clear hcz7_2
     try clear hcz7_3
     try clear hcz7_4
     try clear hcz7_5
     try clear hcz9_0
     try clear hcz9_1
     try clear hcz9_2
     try clear hcz9_3
     try clear hcz9_4
     try clear hcz9_5
     try clear hfz11_0
     try clear hfz11_1
     try clear hfz11_2
     try clear hfz11_3
     try clear hfz11_4
     try clear hfz11_5
     try clear hfz15_0
     try clear hfz15_1
     try clear hfz15_2
     try clear hfz15_3
     try clear hfz15_4
     try clear hfz15_5
     try clear hfz16_0
     try clear hfz16_1
     try clear hfz16_2
     try clear hfz16_3
     try clear hfz16_4
     try clear hfz16_5
     try clear hfz17_0
     try clear hfz17_1
     try clear hfz17_2
     try clear hfz17_3
     try clear hfz17_4
     try clear hfz17_5
     try clear hfz18_0
     try clear hfz18_1
     try clear hfz18_2
     try clear hfz18_3
     try clear hfz18_4
     try clear hfz18_5
     try clear hfz5_0
     try clear hfz5_1
     try clear hfz5_2
     try clear hfz5_3
     try clear hfz5_4
     try clear hfz5_5
     try clear hfz7_0
     try clear hfz7_1
     try clear hfz7_2
     try clear hfz7_3
     try clear hfz7_4
     try clear hfz7_5
     try clear hfz9_0
     try clear hfz9_1
     try clear hfz9_2
     try clear hfz9_3
     try clear hfz9_4
     try clear hfz9_5
     try clear p2
     obtain ⟨x3_2, rfl, HA, HK2, BK155, HB⟩ := hrel
     cases gk with
     | zero => exact absurd HA.out (by simp [hornbeamref21_May.l0])
     | succ k2 =>
      have H := HA.out
      clear HA
      simp only [hornbeamref21_May.l0] at H
      by_cases c20 : x3_2 < a0_0
      ·rw [if_pos c20] at H
       have c20b0 : decide (x3_2 < a0_0) = true := decide_eq_true c20
       clear c20
       replace H := ooB.mp H
       obtain ⟨t156, A210, H⟩ := H
       replace H : (if x3_2 ≥ a0_2 then (if t156 > 0 then (hornbeamref21_May.j2 k2 x3_2 t156 true a0_0 a0_1 a0_2 l0_3 l0_4 a0_5) else (if 0 ≤ x3_2 then (if x3_2 < (l0_4.length : Int) then (hornbeamref21_May.j2 k2 x3_2 t156 (rdOf false l0_4 x3_2) a0_0 a0_1 a0_2 l0_3 l0_4 a0_5) else (none)) else (none))) else (hornbeamref21_May.j2 k2 x3_2 t156 false a0_0 a0_1 a0_2 l0_3 l0_4 a0_5)) = some r := H
       have A21 := aaM A210
       clear A210
       have HC22 := aaM H
       clear H
       have hcz23_0 : wr.cell? ⟨gb155, 0, none⟩ = some (.int .i64 a0_0) := (bC BK155.out 0).trans rfl
       have hcz23_1 : wr.cell? ⟨gb155, 1, none⟩ = some (.int .i64 a0_1) := (bC BK155.out 1).trans rfl
       have hcz23_2 : wr.cell? ⟨gb155, 2, none⟩ = some (.int .i64 a0_2) := (bC BK155.out 2).trans rfl
       have hcz23_3 : wr.cell? ⟨gb155, 3, none⟩ = some (.slice A0_3 l0_3.length c0_3) := (bC BK155.out 3).trans rfl
       have hcz23_4 : wr.cell? ⟨gb155, 4, none⟩ = some (.slice A0_4 l0_4.length c0_4) := (bC BK155.out 4).trans rfl
       have hcz23_5 : wr.cell? ⟨gb155, 5, none⟩ = some (.bool a0_5) := (bC BK155.out 5).trans rfl
       have hfz23_0 := bF BK155.out 0
       have hfz23_1 := bF BK155.out 1
       have hfz23_2 := bF BK155.out 2
       have hfz23_3 := bF BK155.out 3
       have hfz23_4 := bF BK155.out 4
       have hfz23_5 := bF BK155.out 5
       go_upto_region 7 with (first | ((with_reducible refine gate_callee (f := 69) rfl ?_); refine goesL_ (some 60) rfl rfl Try.func69 (by kernel_rfl) rfl #[.agg #[.int .i64 a0_0, .int .i64 a0_1, .int .i64 a0_2, .slice A0_3 l0_3.length c0_3, .slice A0_4 l0_4.length c0_4, .bool a0_5], .int .i64 x3_2] rfl (by (try simp only [List.map_toArray, List.map_cons, List.map_nil]); first | done | rfl | (simp only [List.length_drop, List.length_take]; rfl)) ?_; (with_reducible refine (hornbeamref21_does.calls k2 a0_0 a0_1 a0_2 _ _ l0_3 _ _ l0_4 a0_5 x3_2 t156 _ ?side1 ?side2 ?side3 ?side4 A21.out).mono ?_); (case side1 => repeat (first | exact (ccB HR0_3.out HB.out) | (with_reducible refine ccA ?_ _) | (with_reducible refine ccN ?_ _) | (with_reducible refine ccD ?_))); (case side2 => exact HC0_3.out); (case side3 => repeat (first | exact (ccB HR0_4.out HB.out) | (with_reducible refine ccA ?_ _) | (with_reducible refine ccN ?_ _) | (with_reducible refine ccD ?_))); (case side4 => exact HC0_4.out); rintro e w24 ⟨rfl, hb⟩; refine ⟨_, rfl, ?_⟩; have n0_ := aaM (bB (g := gb155) (o := .cells #[.int .i64 a0_0, .int .i64 a0_1, .int .i64 a0_2, .slice A0_3 l0_3.length c0_3, .slice A0_4 l0_4.length c0_4, .bool a0_5] 42 (0, 0)) (by (with_reducible repeat (first | refine bN ?_ _ | refine bD ?_ | refine bA ?_ _)); exact BK155.out) hb); have n1_ := aaM (lP (by repeat (first | (with_reducible first | exact HB.out | apply lA | apply lN | apply lD | refine lS ?_ GE155.out) | exact HB.out)) hb); clear BK155; clear HB; have BK155 := n0_; have HB := n1_; clear n0_ n1_; (try clear hb); (try clear hb2); (try clear hk); (try clear hi)))
       (try simp only [Act.put, ssB, ssZ, ssS])
       go_cut [75] (fun v75 wc => ∃ (kq : Nat) (x75_21 : Bool), v75 = .bool x75_21 ∧ Aside0 (hornbeamref21_May.j2 kq x3_2 t156 x75_21 a0_0 a0_1 a0_2 l0_3 l0_4 a0_5 = some r) ∧ Aside0 (kq ≤ k2) ∧ Aside0 (wc.heap[gb155]? = some (.cells #[.int .i64 a0_0, .int .i64 a0_1, .int .i64 a0_2, (.slice A0_3 l0_3.length c0_3), (.slice A0_4 l0_4.length c0_4), .bool a0_5] 42 (0, 0))) ∧ Aside0 (Below w.heap.size w wc))
       case first =>
        have H := HC22.out
        clear HC22
        by_cases c25 : x3_2 ≥ a0_2
        ·rw [if_pos c25] at H
         have c25b0 : decide (a0_2 ≤ x3_2) = true := decide_eq_true c25
         clear c25
         (first | rw [c25b0] | (simp only [i64_w, i32_w]; rw [c25b0]) | skip)
         by_cases c26 : t156 > 0
         ·rw [if_pos c26] at H
          have c26b0 : decide (0 < t156) = true := decide_eq_true c26
          clear c26
          have H' := aaM H
          clear H
          have hcz27_0 : w24.cell? ⟨gb155, 0, none⟩ = some (.int .i64 a0_0) := (bC BK155.out 0).trans rfl
          have hcz27_1 : w24.cell? ⟨gb155, 1, none⟩ = some (.int .i64 a0_1) := (bC BK155.out 1).trans rfl
          have hcz27_2 : w24.cell? ⟨gb155, 2, none⟩ = some (.int .i64 a0_2) := (bC BK155.out 2).trans rfl
          have hcz27_3 : w24.cell? ⟨gb155, 3, none⟩ = some (.slice A0_3 l0_3.length c0_3) := (bC BK155.out 3).trans rfl
          have hcz27_4 : w24.cell? ⟨gb155, 4, none⟩ = some (.slice A0_4 l0_4.length c0_4) := (bC BK155.out 4).trans rfl
          have hcz27_5 : w24.cell? ⟨gb155, 5, none⟩ = some (.bool a0_5) := (bC BK155.out 5).trans rfl
          have hfz27_0 := bF BK155.out 0
          have hfz27_1 := bF BK155.out 1
          have hfz27_2 := bF BK155.out 2
          have hfz27_3 := bF BK155.out 3
          have hfz27_4 := bF BK155.out 4
          have hfz27_5 := bF BK155.out 5
          go_wp2
          go_meet
          case rel => exact ⟨_, (true), (by first | rfl | (simp; done) | (simp [*]; done)), H', ⟨by have := HJ1.out; have := HK2.out; first | omega | exact Nat.le_refl _⟩, ⟨by (with_reducible repeat (first | refine bN ?_ _ | refine bD ?_ | refine bA ?_ _)); exact BK155.out⟩, ⟨by repeat (first | (with_reducible first | exact HB.out | apply lA | apply lN | apply lD | refine lS ?_ GE155.out) | exact HB.out)⟩⟩
         ·rw [if_neg c26] at H
          have c26b0 : decide (0 < t156) = false := decide_eq_false c26
          clear c26
          by_cases c28 : 0 ≤ x3_2
          ·rw [if_pos c28] at H
           have c28b0 : decide (0 ≤ x3_2) = true := decide_eq_true c28
           clear c28
           by_cases c29 : x3_2 < (l0_4.length : Int)
           ·rw [if_pos c29] at H
            have c29b0 : decide (x3_2 < (l0_4.length : Int)) = true := decide_eq_true c29
            clear c29
            have H' := aaM H
            clear H
            have hcz30_0 : w24.cell? ⟨gb155, 0, none⟩ = some (.int .i64 a0_0) := (bC BK155.out 0).trans rfl
            have hcz30_1 : w24.cell? ⟨gb155, 1, none⟩ = some (.int .i64 a0_1) := (bC BK155.out 1).trans rfl
            have hcz30_2 : w24.cell? ⟨gb155, 2, none⟩ = some (.int .i64 a0_2) := (bC BK155.out 2).trans rfl
            have hcz30_3 : w24.cell? ⟨gb155, 3, none⟩ = some (.slice A0_3 l0_3.length c0_3) := (bC BK155.out 3).trans rfl
            have hcz30_4 : w24.cell? ⟨gb155, 4, none⟩ = some (.slice A0_4 l0_4.length c0_4) := (bC BK155.out 4).trans rfl
            have hcz30_5 : w24.cell? ⟨gb155, 5, none⟩ = some (.bool a0_5) := (bC BK155.out 5).trans rfl
            have hfz30_0 := bF BK155.out 0
            have hfz30_1 := bF BK155.out 1
            have hfz30_2 := bF BK155.out 2
            have hfz30_3 := bF BK155.out 3
            have hfz30_4 := bF BK155.out 4
            have hfz30_5 := bF BK155.out 5
            have p157 : 0 ≤ (x3_2 : Int) := of_decide_eq_true (by first | (with_reducible assumption) | assumption)
            have q157 : x3_2 < (l0_4.length : Int) := of_decide_eq_true (by first | (with_reducible assumption) | assumption)
            obtain ⟨ad157, e157, hx157_0⟩ := Kd.at_bool HR0_4.out x3_2 p157 q157
            cases e157
            replace hx157_0 := (HB.out.cell (World.block_lt_of_cell? w _ hx157_0)).trans hx157_0
            replace p157 := eq_true p157
            replace q157 := eq_true q157
            go_wp2
            go_meet
            case rel => exact ⟨_, (rdOf false l0_4 x3_2), (by first | rfl | (simp; done) | (simp [*]; done)), H', ⟨by have := HJ1.out; have := HK2.out; first | omega | exact Nat.le_refl _⟩, ⟨by (with_reducible repeat (first | refine bN ?_ _ | refine bD ?_ | refine bA ?_ _)); exact BK155.out⟩, ⟨by repeat (first | (with_reducible first | exact HB.out | apply lA | apply lN | apply lD | refine lS ?_ GE155.out) | exact HB.out)⟩⟩
           ·rw [if_neg c29] at H
            exact absurd H (by simp)
          ·rw [if_neg c28] at H
           exact absurd H (by simp)
        ·rw [if_neg c25] at H
         have c25b0 : decide (a0_2 ≤ x3_2) = false := decide_eq_false c25
         clear c25
         (first | rw [c25b0] | (simp only [i64_w, i32_w]; rw [c25b0]) | skip)
         have H' := aaM H
         clear H
         have hcz31_0 : w24.cell? ⟨gb155, 0, none⟩ = some (.int .i64 a0_0) := (bC BK155.out 0).trans rfl
         have hcz31_1 : w24.cell? ⟨gb155, 1, none⟩ = some (.int .i64 a0_1) := (bC BK155.out 1).trans rfl
         have hcz31_2 : w24.cell? ⟨gb155, 2, none⟩ = some (.int .i64 a0_2) := (bC BK155.out 2).trans rfl
         have hcz31_3 : w24.cell? ⟨gb155, 3, none⟩ = some (.slice A0_3 l0_3.length c0_3) := (bC BK155.out 3).trans rfl
         have hcz31_4 : w24.cell? ⟨gb155, 4, none⟩ = some (.slice A0_4 l0_4.length c0_4) := (bC BK155.out 4).trans rfl
         have hcz31_5 : w24.cell? ⟨gb155, 5, none⟩ = some (.bool a0_5) := (bC BK155.out 5).trans rfl
         have hfz31_0 := bF BK155.out 0
         have hfz31_1 := bF BK155.out 1
         have hfz31_2 := bF BK155.out 2
         have hfz31_3 := bF BK155.out 3
         have hfz31_4 := bF BK155.out 4
         have hfz31_5 := bF BK155.out 5
         go_wp2
         go_meet
         case rel => exact ⟨_, (false), (by first | rfl | (simp; done) | (simp [*]; done)), H', ⟨by have := HJ1.out; have := HK2.out; first | omega | exact Nat.le_refl _⟩, ⟨by (with_reducible repeat (first | refine bN ?_ _ | refine bD ?_ | refine bA ?_ _)); exact BK155.out⟩, ⟨by repeat (first | (with_reducible first | exact HB.out | apply lA | apply lN | apply lD | refine lS ?_ GE155.out) | exact HB.out)⟩⟩
       case rest =>
        clear HC22
        try clear c1
        try clear p1
        try clear q1
        try clear hx1
        try clear c2
        try clear p2
        try clear c3
        try clear c4
        try clear c4b0
        try clear c6
        try clear c6b0
        try clear c8
        try clear c8b0
        try clear c10
        try clear c10b0
        try clear c12
        try clear c12b0
        try clear c12b1
        try clear c13
        try clear c13b0
        try clear c13b1
        try clear c14
        try clear c14b0
        try clear p15
        try clear q15
        try clear hx15
        try clear c19
        try clear c20
        try clear c20b0
        try clear c25
        try clear c25b0
        try clear c26
        try clear c26b0
        try clear c28
        try clear c28b0
        try clear c29
        try clear c29b0
        try clear hcz11_0
        try clear hcz11_1
        try clear hcz11_2
        try clear hcz11_3
        try clear hcz11_4
        try clear hcz11_5
        try clear hcz15_0
        try clear hcz15_1
        try clear hcz15_2
        try clear hcz15_3
        try clear hcz15_4
        try clear hcz15_5
        try clear hcz16_0
        try clear hcz16_1
        try clear hcz16_2
        try clear hcz16_3
        try clear hcz16_4
        try clear hcz16_5
        try clear hcz17_0
        try clear hcz17_1
        try clear hcz17_2
        try clear hcz17_3
        try clear hcz17_4
        try clear hcz17_5
        try clear hcz18_0
        try clear hcz18_1
        try clear hcz18_2
        try clear hcz18_3
        try clear hcz18_4
        try clear hcz18_5
        try clear hcz23_0
        try clear hcz23_1
        try clear hcz23_2
        try clear hcz23_3
        try clear hcz23_4
        try clear hcz23_5
        try clear hcz27_0
        try clear hcz27_1
        try clear hcz27_2
        try clear hcz27_3
        try clear hcz27_4
        try clear hcz27_5
        try clear hcz30_0
        try clear hcz30_1
        try clear hcz30_2
        try clear hcz30_3
        try clear hcz30_4
        try clear hcz30_5
        try clear hcz31_0
        try clear hcz31_1
        try clear hcz31_2
        try clear hcz31_3
        try clear hcz31_4
        try clear hcz31_5
        try clear hcz5_0
        try clear hcz5_1
        try clear hcz5_2
        try clear hcz5_3
        try clear hcz5_4
        try clear hcz5_5
        try clear hcz7_0
        try clear hcz7_1
        try clear hcz7_2
        try clear hcz7_3
        try clear hcz7_4
        try clear hcz7_5
        try clear hcz9_0
        try clear hcz9_1
        try clear hcz9_2
        try clear hcz9_3
        try clear hcz9_4
        try clear hcz9_5
        try clear hfz11_0
        try clear hfz11_1
        try clear hfz11_2
        try clear hfz11_3
        try clear hfz11_4
        try clear hfz11_5
        try clear hfz15_0
        try clear hfz15_1
        try clear hfz15_2
        try clear hfz15_3
        try clear hfz15_4
        try clear hfz15_5
        try clear hfz16_0
        try clear hfz16_1
        try clear hfz16_2
        try clear hfz16_3
        try clear hfz16_4
        try clear hfz16_5
        try clear hfz17_0
        try clear hfz17_1
        try clear hfz17_2
        try clear hfz17_3
        try clear hfz17_4
        try clear hfz17_5
        try clear hfz18_0
        try clear hfz18_1
        try clear hfz18_2
        try clear hfz18_3
        try clear hfz18_4
        try clear hfz18_5
        try clear hfz23_0
        try clear hfz23_1
        try clear hfz23_2
        try clear hfz23_3
        try clear hfz23_4
        try clear hfz23_5
        try clear hfz27_0
        try clear hfz27_1
        try clear hfz27_2
        try clear hfz27_3
        try clear hfz27_4
        try clear hfz27_5
        try clear hfz30_0
        try clear hfz30_1
        try clear hfz30_2
        try clear hfz30_3
        try clear hfz30_4
        try clear hfz30_5
        try clear hfz31_0
        try clear hfz31_1
        try clear hfz31_2
        try clear hfz31_3
        try clear hfz31_4
        try clear hfz31_5
        try clear hfz5_0
        try clear hfz5_1
        try clear hfz5_2
        try clear hfz5_3
        try clear hfz5_4
        try clear hfz5_5
        try clear hfz7_0
        try clear hfz7_1
        try clear hfz7_2
        try clear hfz7_3
        try clear hfz7_4
        try clear hfz7_5
        try clear hfz9_0
        try clear hfz9_1
        try clear hfz9_2
        try clear hfz9_3
        try clear hfz9_4
        try clear hfz9_5
        try clear hx157_0
        try clear p157
        try clear p2
        try clear q157
        obtain ⟨kq, x75_21, rfl, HA, HJ21, BK155, HB⟩ := hcut
        cases kq with
        | zero => exact absurd HA.out (by simp [hornbeamref21_May.j2])
        | succ kj21 =>
         have H := HA.out
         clear HA
         simp only [hornbeamref21_May.j2] at H
         by_cases c32 : x75_21 = true
         ·subst c32
          have H1 : (some false) = some r := by rw [if_pos rfl] at H; exact H
          clear H
          have H := H1
          clear H1
          obtain rfl := Option.some.inj H
          go_wp2
          all_goals (go_ret; exact ⟨by first | rfl | (simp [errW_none, errW_some] <;> rfl) | (simp [*, errW_none, errW_some] <;> rfl) | (simp_all; done), by repeat (first | (with_reducible first | exact HB.out | apply lA | apply lN | apply lD | refine lS ?_ GE155.out) | exact HB.out)⟩)
         ·replace c32 := Bool.eq_false_iff.mpr c32
          subst c32
          have H1 : (if x3_2 < a0_2 then (if 0 ≤ x3_2 then (if x3_2 < (l0_4.length : Int) then (if rdOf false l0_4 x3_2 = true then (if t156 = 0 then (hornbeamref21_May.l0 kj21 (wrap64 (x3_2 + 1)) a0_0 a0_1 a0_2 l0_3 l0_4 a0_5) else (some false)) else (if t156 = 1 then (hornbeamref21_May.l0 kj21 (wrap64 (x3_2 + 1)) a0_0 a0_1 a0_2 l0_3 l0_4 a0_5) else (some false))) else (none)) else (none)) else (hornbeamref21_May.l0 kj21 (wrap64 (x3_2 + 1)) a0_0 a0_1 a0_2 l0_3 l0_4 a0_5)) = some r := by rw [if_neg (show ¬ (false = true) by decide)] at H; exact H
          clear H
          have H := H1
          clear H1
          by_cases c33 : x3_2 < a0_2
          ·rw [if_pos c33] at H
           have c33b0 : decide (x3_2 < a0_2) = true := decide_eq_true c33
           clear c33
           by_cases c34 : 0 ≤ x3_2
           ·rw [if_pos c34] at H
            have c34b0 : decide (0 ≤ x3_2) = true := decide_eq_true c34
            clear c34
            by_cases c35 : x3_2 < (l0_4.length : Int)
            ·rw [if_pos c35] at H
             have c35b0 : decide (x3_2 < (l0_4.length : Int)) = true := decide_eq_true c35
             clear c35
             obtain ⟨bq36, hbq36⟩ : ∃ b_ : Bool, b_ = (rdOf false l0_4 x3_2) := ⟨_, rfl⟩
             replace H : (if bq36 = true then (if t156 = 0 then (hornbeamref21_May.l0 kj21 (wrap64 (x3_2 + 1)) a0_0 a0_1 a0_2 l0_3 l0_4 a0_5) else (some false)) else (if t156 = 1 then (hornbeamref21_May.l0 kj21 (wrap64 (x3_2 + 1)) a0_0 a0_1 a0_2 l0_3 l0_4 a0_5) else (some false))) = some r := by rw [← hbq36] at H; exact H
             have Nbq36 := aaM hbq36
             clear hbq36
             by_cases c37 : bq36 = true
             ·subst c37
              have H1 : (if t156 = 0 then (hornbeamref21_May.l0 kj21 (wrap64 (x3_2 + 1)) a0_0 a0_1 a0_2 l0_3 l0_4 a0_5) else (some false)) = some r := by rw [if_pos rfl] at H; exact H
              clear H
              have H := H1
              clear H1
              by_cases c38 : t156 = 0
              ·rw [if_pos c38] at H
               have c38b0 : (t156 == 0) = true := beq_iff_eq.mpr c38
               have c38b1 : (t156 != 0) = false := bne_eq_false_iff_eq.mpr c38
               clear c38
               have H' := aaM H
               clear H
               have hcz39_0 : wc.cell? ⟨gb155, 0, none⟩ = some (.int .i64 a0_0) := (bC BK155.out 0).trans rfl
               have hcz39_1 : wc.cell? ⟨gb155, 1, none⟩ = some (.int .i64 a0_1) := (bC BK155.out 1).trans rfl
               have hcz39_2 : wc.cell? ⟨gb155, 2, none⟩ = some (.int .i64 a0_2) := (bC BK155.out 2).trans rfl
               have hcz39_3 : wc.cell? ⟨gb155, 3, none⟩ = some (.slice A0_3 l0_3.length c0_3) := (bC BK155.out 3).trans rfl
               have hcz39_4 : wc.cell? ⟨gb155, 4, none⟩ = some (.slice A0_4 l0_4.length c0_4) := (bC BK155.out 4).trans rfl
               have hcz39_5 : wc.cell? ⟨gb155, 5, none⟩ = some (.bool a0_5) := (bC BK155.out 5).trans rfl
               have hfz39_0 := bF BK155.out 0
               have hfz39_1 := bF BK155.out 1
               have hfz39_2 := bF BK155.out 2
               have hfz39_3 := bF BK155.out 3
               have hfz39_4 := bF BK155.out 4
               have hfz39_5 := bF BK155.out 5
               have p158 : 0 ≤ (x3_2 : Int) := of_decide_eq_true (by first | (with_reducible assumption) | assumption)
               have q158 : x3_2 < (l0_4.length : Int) := of_decide_eq_true (by first | (with_reducible assumption) | assumption)
               obtain ⟨ad158, e158, hx158_0⟩ := Kd.at_bool HR0_4.out x3_2 p158 q158
               (try rw [← Nbq36.out] at hx158_0)
               cases e158
               replace hx158_0 := (HB.out.cell (World.block_lt_of_cell? w _ hx158_0)).trans hx158_0
               replace p158 := eq_true p158
               replace q158 := eq_true q158
               have p159 : 0 ≤ (x3_2 : Int) := of_decide_eq_true (by first | (with_reducible assumption) | assumption)
               have q159 : x3_2 < (l0_4.length : Int) := of_decide_eq_true (by first | (with_reducible assumption) | assumption)
               obtain ⟨ad159, e159, hx159_0⟩ := Kd.at_bool HR0_4.out x3_2 p159 q159
               (try rw [← Nbq36.out] at hx159_0)
               obtain rfl : ad158 = ad159 := (by injection e159)
               replace hx159_0 := (HB.out.cell (World.block_lt_of_cell? w _ hx159_0)).trans hx159_0
               replace p159 := eq_true p159
               replace q159 := eq_true q159
               go_wp2
               go_roundg kj21
               case measure => have := HJ1.out; have := HK2.out; have := HJ21.out; omega
               case rel => exact ⟨(wrap64 (x3_2 + 1)), (by first | rfl | (simp; done) | (simp [*]; done)), H', ⟨by have := HJ1.out; have := HK2.out; have := HJ21.out; omega⟩, ⟨by (with_reducible repeat (first | refine bN ?_ _ | refine bD ?_ | refine bA ?_ _)); exact BK155.out⟩, ⟨by repeat (first | (with_reducible first | exact HB.out | apply lA | apply lN | apply lD | refine lS ?_ GE155.out) | exact HB.out)⟩⟩
              ·rw [if_neg c38] at H
               have c38b0 : (t156 == 0) = false := beq_eq_false_iff_ne.mpr c38
               have c38b1 : (t156 != 0) = true := bne_iff_ne.mpr c38
               obtain rfl := Option.some.inj H
               have hcz40_0 : wc.cell? ⟨gb155, 0, none⟩ = some (.int .i64 a0_0) := (bC BK155.out 0).trans rfl
               have hcz40_1 : wc.cell? ⟨gb155, 1, none⟩ = some (.int .i64 a0_1) := (bC BK155.out 1).trans rfl
               have hcz40_2 : wc.cell? ⟨gb155, 2, none⟩ = some (.int .i64 a0_2) := (bC BK155.out 2).trans rfl
               have hcz40_3 : wc.cell? ⟨gb155, 3, none⟩ = some (.slice A0_3 l0_3.length c0_3) := (bC BK155.out 3).trans rfl
               have hcz40_4 : wc.cell? ⟨gb155, 4, none⟩ = some (.slice A0_4 l0_4.length c0_4) := (bC BK155.out 4).trans rfl
               have hcz40_5 : wc.cell? ⟨gb155, 5, none⟩ = some (.bool a0_5) := (bC BK155.out 5).trans rfl
               have hfz40_0 := bF BK155.out 0
               have hfz40_1 := bF BK155.out 1
               have hfz40_2 := bF BK155.out 2
               have hfz40_3 := bF BK155.out 3
               have hfz40_4 := bF BK155.out 4
               have hfz40_5 := bF BK155.out 5
               have p158 : 0 ≤ (x3_2 : Int) := of_decide_eq_true (by first | (with_reducible assumption) | assumption)
               have q158 : x3_2 < (l0_4.length : Int) := of_decide_eq_true (by first | (with_reducible assumption) | assumption)
               obtain ⟨ad158, e158, hx158_0⟩ := Kd.at_bool HR0_4.out x3_2 p158 q158
               (try rw [← Nbq36.out] at hx158_0)
               cases e158
               replace hx158_0 := (HB.out.cell (World.block_lt_of_cell? w _ hx158_0)).trans hx158_0
               replace p158 := eq_true p158
               replace q158 := eq_true q158
               go_wp2
               all_goals (go_ret; exact ⟨by first | rfl | (simp [errW_none, errW_some] <;> rfl) | (simp [*, errW_none, errW_some] <;> rfl) | (simp_all; done), by repeat (first | (with_reducible first | exact HB.out | apply lA | apply lN | apply lD | refine lS ?_ GE155.out) | exact HB.out)⟩)
             ·replace c37 := Bool.eq_false_iff.mpr c37
              subst c37
              have H1 : (if t156 = 1 then (hornbeamref21_May.l0 kj21 (wrap64 (x3_2 + 1)) a0_0 a0_1 a0_2 l0_3 l0_4 a0_5) else (some false)) = some r := by rw [if_neg (show ¬ (false = true) by decide)] at H; exact H
              clear H
              have H := H1
              clear H1
              by_cases c41 : t156 = 1
              ·rw [if_pos c41] at H
               have c41b0 : (t156 == 1) = true := beq_iff_eq.mpr c41
               have c41b1 : (t156 != 1) = false := bne_eq_false_iff_eq.mpr c41
               clear c41
               have H' := aaM H
               clear H
               have hcz42_0 : wc.cell? ⟨gb155, 0, none⟩ = some (.int .i64 a0_0) := (bC BK155.out 0).trans rfl
               have hcz42_1 : wc.cell? ⟨gb155, 1, none⟩ = some (.int .i64 a0_1) := (bC BK155.out 1).trans rfl
               have hcz42_2 : wc.cell? ⟨gb155, 2, none⟩ = some (.int .i64 a0_2) := (bC BK155.out 2).trans rfl
               have hcz42_3 : wc.cell? ⟨gb155, 3, none⟩ = some (.slice A0_3 l0_3.length c0_3) := (bC BK155.out 3).trans rfl
               have hcz42_4 : wc.cell? ⟨gb155, 4, none⟩ = some (.slice A0_4 l0_4.length c0_4) := (bC BK155.out 4).trans rfl
               have hcz42_5 : wc.cell? ⟨gb155, 5, none⟩ = some (.bool a0_5) := (bC BK155.out 5).trans rfl
               have hfz42_0 := bF BK155.out 0
               have hfz42_1 := bF BK155.out 1
               have hfz42_2 := bF BK155.out 2
               have hfz42_3 := bF BK155.out 3
               have hfz42_4 := bF BK155.out 4
               have hfz42_5 := bF BK155.out 5
               have p158 : 0 ≤ (x3_2 : Int) := of_decide_eq_true (by first | (with_reducible assumption) | assumption)
               have q158 : x3_2 < (l0_4.length : Int) := of_decide_eq_true (by first | (with_reducible assumption) | assumption)
               obtain ⟨ad158, e158, hx158_0⟩ := Kd.at_bool HR0_4.out x3_2 p158 q158
               (try rw [← Nbq36.out] at hx158_0)
               cases e158
               replace hx158_0 := (HB.out.cell (World.block_lt_of_cell? w _ hx158_0)).trans hx158_0
               replace p158 := eq_true p158
               replace q158 := eq_true q158
               have p160 : 0 ≤ (x3_2 : Int) := of_decide_eq_true (by first | (with_reducible assumption) | assumption)
               have q160 : x3_2 < (l0_4.length : Int) := of_decide_eq_true (by first | (with_reducible assumption) | assumption)
               obtain ⟨ad160, e160, hx160_0⟩ := Kd.at_bool HR0_4.out x3_2 p160 q160
               (try rw [← Nbq36.out] at hx160_0)
               obtain rfl : ad158 = ad160 := (by injection e160)
               replace hx160_0 := (HB.out.cell (World.block_lt_of_cell? w _ hx160_0)).trans hx160_0
               replace p160 := eq_true p160
               replace q160 := eq_true q160
               go_wp2
               go_roundg kj21
               case measure => have := HJ1.out; have := HK2.out; have := HJ21.out; omega
               case rel => exact ⟨(wrap64 (x3_2 + 1)), (by first | rfl | (simp; done) | (simp [*]; done)), H', ⟨by have := HJ1.out; have := HK2.out; have := HJ21.out; omega⟩, ⟨by (with_reducible repeat (first | refine bN ?_ _ | refine bD ?_ | refine bA ?_ _)); exact BK155.out⟩, ⟨by repeat (first | (with_reducible first | exact HB.out | apply lA | apply lN | apply lD | refine lS ?_ GE155.out) | exact HB.out)⟩⟩
              ·rw [if_neg c41] at H
               have c41b0 : (t156 == 1) = false := beq_eq_false_iff_ne.mpr c41
               have c41b1 : (t156 != 1) = true := bne_iff_ne.mpr c41
               obtain rfl := Option.some.inj H
               have hcz43_0 : wc.cell? ⟨gb155, 0, none⟩ = some (.int .i64 a0_0) := (bC BK155.out 0).trans rfl
               have hcz43_1 : wc.cell? ⟨gb155, 1, none⟩ = some (.int .i64 a0_1) := (bC BK155.out 1).trans rfl
               have hcz43_2 : wc.cell? ⟨gb155, 2, none⟩ = some (.int .i64 a0_2) := (bC BK155.out 2).trans rfl
               have hcz43_3 : wc.cell? ⟨gb155, 3, none⟩ = some (.slice A0_3 l0_3.length c0_3) := (bC BK155.out 3).trans rfl
               have hcz43_4 : wc.cell? ⟨gb155, 4, none⟩ = some (.slice A0_4 l0_4.length c0_4) := (bC BK155.out 4).trans rfl
               have hcz43_5 : wc.cell? ⟨gb155, 5, none⟩ = some (.bool a0_5) := (bC BK155.out 5).trans rfl
               have hfz43_0 := bF BK155.out 0
               have hfz43_1 := bF BK155.out 1
               have hfz43_2 := bF BK155.out 2
               have hfz43_3 := bF BK155.out 3
               have hfz43_4 := bF BK155.out 4
               have hfz43_5 := bF BK155.out 5
               have p158 : 0 ≤ (x3_2 : Int) := of_decide_eq_true (by first | (with_reducible assumption) | assumption)
               have q158 : x3_2 < (l0_4.length : Int) := of_decide_eq_true (by first | (with_reducible assumption) | assumption)
               obtain ⟨ad158, e158, hx158_0⟩ := Kd.at_bool HR0_4.out x3_2 p158 q158
               (try rw [← Nbq36.out] at hx158_0)
               cases e158
               replace hx158_0 := (HB.out.cell (World.block_lt_of_cell? w _ hx158_0)).trans hx158_0
               replace p158 := eq_true p158
               replace q158 := eq_true q158
               have p160 : 0 ≤ (x3_2 : Int) := of_decide_eq_true (by first | (with_reducible assumption) | assumption)
               have q160 : x3_2 < (l0_4.length : Int) := of_decide_eq_true (by first | (with_reducible assumption) | assumption)
               obtain ⟨ad160, e160, hx160_0⟩ := Kd.at_bool HR0_4.out x3_2 p160 q160
               (try rw [← Nbq36.out] at hx160_0)
               obtain rfl : ad158 = ad160 := (by injection e160)
               replace hx160_0 := (HB.out.cell (World.block_lt_of_cell? w _ hx160_0)).trans hx160_0
               replace p160 := eq_true p160
               replace q160 := eq_true q160
               go_wp2
               all_goals (go_ret; exact ⟨by first | rfl | (simp [errW_none, errW_some] <;> rfl) | (simp [*, errW_none, errW_some] <;> rfl) | (simp_all; done), by repeat (first | (with_reducible first | exact HB.out | apply lA | apply lN | apply lD | refine lS ?_ GE155.out) | exact HB.out)⟩)
            ·rw [if_neg c35] at H
             exact absurd H (by simp)
           ·rw [if_neg c34] at H
            exact absurd H (by simp)
          ·rw [if_neg c33] at H
           have c33b0 : decide (x3_2 < a0_2) = false := decide_eq_false c33
           clear c33
           have H' := aaM H
           clear H
           have hcz44_0 : wc.cell? ⟨gb155, 0, none⟩ = some (.int .i64 a0_0) := (bC BK155.out 0).trans rfl
           have hcz44_1 : wc.cell? ⟨gb155, 1, none⟩ = some (.int .i64 a0_1) := (bC BK155.out 1).trans rfl
           have hcz44_2 : wc.cell? ⟨gb155, 2, none⟩ = some (.int .i64 a0_2) := (bC BK155.out 2).trans rfl
           have hcz44_3 : wc.cell? ⟨gb155, 3, none⟩ = some (.slice A0_3 l0_3.length c0_3) := (bC BK155.out 3).trans rfl
           have hcz44_4 : wc.cell? ⟨gb155, 4, none⟩ = some (.slice A0_4 l0_4.length c0_4) := (bC BK155.out 4).trans rfl
           have hcz44_5 : wc.cell? ⟨gb155, 5, none⟩ = some (.bool a0_5) := (bC BK155.out 5).trans rfl
           have hfz44_0 := bF BK155.out 0
           have hfz44_1 := bF BK155.out 1
           have hfz44_2 := bF BK155.out 2
           have hfz44_3 := bF BK155.out 3
           have hfz44_4 := bF BK155.out 4
           have hfz44_5 := bF BK155.out 5
           go_wp2
           go_roundg kj21
           case measure => have := HJ1.out; have := HK2.out; have := HJ21.out; omega
           case rel => exact ⟨(wrap64 (x3_2 + 1)), (by first | rfl | (simp; done) | (simp [*]; done)), H', ⟨by have := HJ1.out; have := HK2.out; have := HJ21.out; omega⟩, ⟨by (with_reducible repeat (first | refine bN ?_ _ | refine bD ?_ | refine bA ?_ _)); exact BK155.out⟩, ⟨by repeat (first | (with_reducible first | exact HB.out | apply lA | apply lN | apply lD | refine lS ?_ GE155.out) | exact HB.out)⟩⟩
      ·rw [if_neg c20] at H
       have c20b0 : decide (x3_2 < a0_0) = false := decide_eq_false c20
       clear c20
       have H' := aaM H
       clear H
       have hcz45_0 : wr.cell? ⟨gb155, 0, none⟩ = some (.int .i64 a0_0) := (bC BK155.out 0).trans rfl
       have hcz45_1 : wr.cell? ⟨gb155, 1, none⟩ = some (.int .i64 a0_1) := (bC BK155.out 1).trans rfl
       have hcz45_2 : wr.cell? ⟨gb155, 2, none⟩ = some (.int .i64 a0_2) := (bC BK155.out 2).trans rfl
       have hcz45_3 : wr.cell? ⟨gb155, 3, none⟩ = some (.slice A0_3 l0_3.length c0_3) := (bC BK155.out 3).trans rfl
       have hcz45_4 : wr.cell? ⟨gb155, 4, none⟩ = some (.slice A0_4 l0_4.length c0_4) := (bC BK155.out 4).trans rfl
       have hcz45_5 : wr.cell? ⟨gb155, 5, none⟩ = some (.bool a0_5) := (bC BK155.out 5).trans rfl
       have hfz45_0 := bF BK155.out 0
       have hfz45_1 := bF BK155.out 1
       have hfz45_2 := bF BK155.out 2
       have hfz45_3 := bF BK155.out 3
       have hfz45_4 := bF BK155.out 4
       have hfz45_5 := bF BK155.out 5
       go_wp2
       go_loopg [5] k2 (fun kq v5 w' => ∃ (x5_3 : Int), v5 = .int .i64 x5_3 ∧ Aside0 (hornbeamref21_May.l1 kq x5_3 a0_0 a0_1 a0_2 l0_3 l0_4 a0_5 = some r) ∧ Aside0 (kq ≤ k2) ∧ Aside0 (w'.heap[gb155]? = some (.cells #[.int .i64 a0_0, .int .i64 a0_1, .int .i64 a0_2, (.slice A0_3 l0_3.length c0_3), (.slice A0_4 l0_4.length c0_4), .bool a0_5] 42 (0, 0))) ∧ Aside0 (Below w.heap.size w w'))
       case atStart => exact ⟨(0), (by first | rfl | (simp; done) | (simp [*]; done)), H', ⟨Nat.le_refl _⟩, ⟨by (with_reducible repeat (first | refine bN ?_ _ | refine bD ?_ | refine bA ?_ _)); exact BK155.out⟩, ⟨by repeat (first | (with_reducible first | exact HB.out | apply lA | apply lN | apply lD | refine lS ?_ GE155.out) | exact HB.out)⟩⟩
       case round =>
        clear H'
        try clear c1
        try clear p1
        try clear q1
        try clear hx1
        try clear c2
        try clear p2
        try clear c3
        try clear q3
        try clear c4
        try clear c4b0
        try clear c6
        try clear c6b0
        try clear p6
        try clear c8
        try clear c8b0
        try clear c10
        try clear c10b0
        try clear c12
        try clear c12b0
        try clear c12b1
        try clear c13
        try clear c13b0
        try clear c13b1
        try clear c14
        try clear c14b0
        try clear p15
        try clear q15
        try clear hx15
        try clear p16
        try clear q16
        try clear hx16
        try clear c19
        try clear c20
        try clear c20b0
        try clear c25
        try clear c25b0
        try clear c26
        try clear c26b0
        try clear c28
        try clear c28b0
        try clear c29
        try clear c29b0
        try clear c32
        try clear c33
        try clear c33b0
        try clear c34
        try clear c34b0
        try clear c35
        try clear c35b0
        try clear q36
        try clear c37
        try clear c38
        try clear c38b0
        try clear c38b1
        try clear c41
        try clear c41b0
        try clear c41b1
        try clear hcz11_0
        try clear hcz11_1
        try clear hcz11_2
        try clear hcz11_3
        try clear hcz11_4
        try clear hcz11_5
        try clear hcz15_0
        try clear hcz15_1
        try clear hcz15_2
        try clear hcz15_3
        try clear hcz15_4
        try clear hcz15_5
        try clear hcz16_0
        try clear hcz16_1
        try clear hcz16_2
        try clear hcz16_3
        try clear hcz16_4
        try clear hcz16_5
        try clear hcz17_0
        try clear hcz17_1
        try clear hcz17_2
        try clear hcz17_3
        try clear hcz17_4
        try clear hcz17_5
        try clear hcz18_0
        try clear hcz18_1
        try clear hcz18_2
        try clear hcz18_3
        try clear hcz18_4
        try clear hcz18_5
        try clear hcz23_0
        try clear hcz23_1
        try clear hcz23_2
        try clear hcz23_3
        try clear hcz23_4
        try clear hcz23_5
        try clear hcz27_0
        try clear hcz27_1
        try clear hcz27_2
        try clear hcz27_3
        try clear hcz27_4
        try clear hcz27_5
        try clear hcz30_0
        try clear hcz30_1
        try clear hcz30_2
        try clear hcz30_3
        try clear hcz30_4
        try clear hcz30_5
        try clear hcz31_0
        try clear hcz31_1
        try clear hcz31_2
        try clear hcz31_3
        try clear hcz31_4
        try clear hcz31_5
        try clear hcz39_0
        try clear hcz39_1
        try clear hcz39_2
        try clear hcz39_3
        try clear hcz39_4
        try clear hcz39_5
        try clear hcz40_0
        try clear hcz40_1
        try clear hcz40_2
        try clear hcz40_3
        try clear hcz40_4
        try clear hcz40_5
        try clear hcz42_0
        try clear hcz42_1
        try clear hcz42_2
        try clear hcz42_3
        try clear hcz42_4
        try clear hcz42_5
        try clear hcz43_0
        try clear hcz43_1
        try clear hcz43_2
        try clear hcz43_3
        try clear hcz43_4
        try clear hcz43_5
        try clear hcz44_0
        try clear hcz44_1
        try clear hcz44_2
        try clear hcz44_3
        try clear hcz44_4
        try clear hcz44_5
        try clear hcz45_0
        try clear hcz45_1
        try clear hcz45_2
        try clear hcz45_3
        try clear hcz45_4
        try clear hcz45_5
        try clear hcz5_0
        try clear hcz5_1
        try clear hcz5_2
        try clear hcz5_3
        try clear hcz5_4
        try clear hcz5_5
        try clear hcz7_0
        try clear hcz7_1
        try clear hcz7_2
        try clear hcz7_3
        try clear hcz7_4
        try clear hcz7_5
        try clear hcz9_0
        try clear hcz9_1
        try clear hcz9_2
        try clear hcz9_3
        try clear hcz9_4
        try clear hcz9_5
        try clear hfz11_0
        try clear hfz11_1
        try clear hfz11_2
        try clear hfz11_3
        try clear hfz11_4
        try clear hfz11_5
        try clear hfz15_0
        try clear hfz15_1
        try clear hfz15_2
        try clear hfz15_3
        try clear hfz15_4
        try clear hfz15_5
        try clear hfz16_0
        try clear hfz16_1
        try clear hfz16_2
        try clear hfz16_3
        try clear hfz16_4
        try clear hfz16_5
        try clear hfz17_0
        try clear hfz17_1
        try clear hfz17_2
        try clear hfz17_3
        try clear hfz17_4
        try clear hfz17_5
        try clear hfz18_0
        try clear hfz18_1
        try clear hfz18_2
        try clear hfz18_3
        try clear hfz18_4
        try clear hfz18_5
        try clear hfz23_0
        try clear hfz23_1
        try clear hfz23_2
        try clear hfz23_3
        try clear hfz23_4
        try clear hfz23_5
        try clear hfz27_0
        try clear hfz27_1
        try clear hfz27_2
        try clear hfz27_3
        try clear hfz27_4
        try clear hfz27_5
        try clear hfz30_0
        try clear hfz30_1
        try clear hfz30_2
        try clear hfz30_3
        try clear hfz30_4
        try clear hfz30_5
        try clear hfz31_0
        try clear hfz31_1
        try clear hfz31_2
        try clear hfz31_3
        try clear hfz31_4
        try clear hfz31_5
        try clear hfz39_0
        try clear hfz39_1
        try clear hfz39_2
        try clear hfz39_3
        try clear hfz39_4
        try clear hfz39_5
        try clear hfz40_0
        try clear hfz40_1
        try clear hfz40_2
        try clear hfz40_3
        try clear hfz40_4
        try clear hfz40_5
        try clear hfz42_0
        try clear hfz42_1
        try clear hfz42_2
        try clear hfz42_3
        try clear hfz42_4
        try clear hfz42_5
        try clear hfz43_0
        try clear hfz43_1
        try clear hfz43_2
        try clear hfz43_3
        try clear hfz43_4
        try clear hfz43_5
        try clear hfz44_0
        try clear hfz44_1
        try clear hfz44_2
        try clear hfz44_3
        try clear hfz44_4
        try clear hfz44_5
        try clear hfz45_0
        try clear hfz45_1
        try clear hfz45_2
        try clear hfz45_3
        try clear hfz45_4
        try clear hfz45_5
        try clear hfz5_0
        try clear hfz5_1
        try clear hfz5_2
        try clear hfz5_3
        try clear hfz5_4
        try clear hfz5_5
        try clear hfz7_0
        try clear hfz7_1
        try clear hfz7_2
        try clear hfz7_3
        try clear hfz7_4
        try clear hfz7_5
        try clear hfz9_0
        try clear hfz9_1
        try clear hfz9_2
        try clear hfz9_3
        try clear hfz9_4
        try clear hfz9_5
        try clear hx157_0
        try clear hx158_0
        try clear hx159_0
        try clear hx160_0
        try clear p1
        try clear p15
        try clear p157
        try clear p158
        try clear p159
        try clear p160
        try clear p2
        try clear q1
        try clear q15
        try clear q157
        try clear q158
        try clear q159
        try clear q160
        obtain ⟨x5_3, rfl, HA, HK3, BK155, HB⟩ := hrel
        cases gk with
        | zero => exact absurd HA.out (by simp [hornbeamref21_May.l1])
        | succ k3 =>
         have H := HA.out
         clear HA
         simp only [hornbeamref21_May.l1] at H
         by_cases c46 : x5_3 < (l0_3.length : Int)
         ·rw [if_pos c46] at H
          have c46b0 : decide (x5_3 < (l0_3.length : Int)) = true := decide_eq_true c46
          clear c46
          have HC47 := aaM H
          clear H
          have hcz48_0 : wr.cell? ⟨gb155, 0, none⟩ = some (.int .i64 a0_0) := (bC BK155.out 0).trans rfl
          have hcz48_1 : wr.cell? ⟨gb155, 1, none⟩ = some (.int .i64 a0_1) := (bC BK155.out 1).trans rfl
          have hcz48_2 : wr.cell? ⟨gb155, 2, none⟩ = some (.int .i64 a0_2) := (bC BK155.out 2).trans rfl
          have hcz48_3 : wr.cell? ⟨gb155, 3, none⟩ = some (.slice A0_3 l0_3.length c0_3) := (bC BK155.out 3).trans rfl
          have hcz48_4 : wr.cell? ⟨gb155, 4, none⟩ = some (.slice A0_4 l0_4.length c0_4) := (bC BK155.out 4).trans rfl
          have hcz48_5 : wr.cell? ⟨gb155, 5, none⟩ = some (.bool a0_5) := (bC BK155.out 5).trans rfl
          have hfz48_0 := bF BK155.out 0
          have hfz48_1 := bF BK155.out 1
          have hfz48_2 := bF BK155.out 2
          have hfz48_3 := bF BK155.out 3
          have hfz48_4 := bF BK155.out 4
          have hfz48_5 := bF BK155.out 5
          go_upto_region 14 with (fail)
          go_cut [125] (fun v125 wc => ∃ (kq : Nat) (x125_46 : Bool), v125 = .bool x125_46 ∧ Aside0 (hornbeamref21_May.j4 kq x5_3 x125_46 a0_0 a0_1 a0_2 l0_3 l0_4 a0_5 = some r) ∧ Aside0 (kq ≤ k3) ∧ Aside0 (wc.heap[gb155]? = some (.cells #[.int .i64 a0_0, .int .i64 a0_1, .int .i64 a0_2, (.slice A0_3 l0_3.length c0_3), (.slice A0_4 l0_4.length c0_4), .bool a0_5] 42 (0, 0))) ∧ Aside0 (Below w.heap.size w wc))
          case first =>
           have H := HC47.out
           clear HC47
           by_cases c49 : 0 ≤ x5_3
           ·rw [if_pos c49] at H
            have c49b0 : decide (0 ≤ x5_3) = true := decide_eq_true c49
            clear c49
            (first | rw [c49b0] | (simp only [i64_w, i32_w]; rw [c49b0]) | skip)
            by_cases c50 : (rd l0_3 x5_3) < (-2)
            ·rw [if_pos c50] at H
             have c50b0 : decide ((rd l0_3 x5_3) < (-2)) = true := decide_eq_true c50
             clear c50
             have H' := aaM H
             clear H
             try go_wp2
             have n0_ := aaM (bD BK155.out)
             have n1_ := aaM (lD HB.out)
             clear BK155 HB
             have BK155 := n0_
             have HB := n1_
             clear n0_ n1_
             have p162 : 0 ≤ (x5_3 : Int) := of_decide_eq_true (by first | (with_reducible assumption) | assumption)
             have q162 : x5_3 < (l0_3.length : Int) := of_decide_eq_true (by first | (with_reducible assumption) | assumption)
             obtain ⟨ad162, e162, hx162_0⟩ := Kd.at_int HR0_3.out x5_3 p162 q162
             have hw162_0 := hx162_0
             cases e162
             replace hx162_0 := (HB.out.cell (World.block_lt_of_cell? w _ hx162_0)).trans hx162_0
             replace p162 := eq_true p162
             replace q162 := eq_true q162
             refine start_ (n := 16) (S := fun w' => w'.cell? ⟨gb155, 0, none⟩ = some (.int .i64 a0_0) ∧ w'.cell? ⟨gb155, 1, none⟩ = some (.int .i64 a0_1) ∧ w'.cell? ⟨gb155, 2, none⟩ = some (.int .i64 a0_2) ∧ w'.cell? ⟨gb155, 3, none⟩ = some (.slice (some ad162) l0_3.length c0_3) ∧ w'.cell? ⟨gb155, 4, none⟩ = some (.slice A0_4 l0_4.length c0_4) ∧ w'.cell? ⟨gb155, 5, none⟩ = some (.bool a0_5) ∧ w'.cell? (ad162.add (x5_3).toNat) = some (.int .i64 (rd l0_3 x5_3))) (ds := []) #[false, false, false, false, false, false, false, false, false, false, false, false, false, false, false, false] (by kernel_rfl) rfl rfl ⟨(bC BK155.out 0).trans rfl, (bC BK155.out 1).trans rfl, (bC BK155.out 2).trans rfl, (bC BK155.out 3).trans rfl, (bC BK155.out 4).trans rfl, (bC BK155.out 5).trans rfl, ((HB.out.cell (World.block_lt_of_cell? w _ hw162_0)).trans hw162_0)⟩ (fun hHeld => ?_); refine with_tabW hornbeamref21_May.tab14 hornbeamref21_May.bits14 (fun HT_ HW_ => ?_)
             generalize wr.drew = w51 at BK155 HB hx162_0 hHeld ⊢
             refine pure_ (i := 0) (N := some 110) (v := ?_) (a' := ?_) #[true, false, false, false, false, false, false, false, false, false, false, false, false, false, false, false] rfl rfl (any_of HT_.out (by kernel_rfl)) (fun _ _ _ h => h) (Or.inl ⟨by rfl, ?_⟩) ?_ ?_
             rotate_left
             ·intro w'
              go_simp
              with_reducible rfl
             rotate_left
             ·simp only [Act.put, ssB, ssZ, ssS, i64_w, i32_w]
              rfl
             refine pure_ (i := 2) (N := some 112) (v := ?_) (a' := ?_) #[true, false, true, false, false, false, false, false, false, false, false, false, false, false, false, false] rfl rfl (any_of HT_.out (by kernel_rfl)) (fun _ _ _ h => h) (Or.inl ⟨by rfl, ?_⟩) ?_ ?_
             rotate_left
             ·intro w'
              go_simp
              with_reducible rfl
             rotate_left
             ·simp only [Act.put, ssB, ssZ, ssS, i64_w, i32_w]
              rfl
             refine take_ (i := 1) (N := some 111) (v := ?_) (a' := ?_) #[true, true, true, false, false, false, false, false, false, false, false, false, false, false, false, false] rfl rfl (take_ofW HT_.out HW_.out (by kernel_rfl)) (fun _ _ _ h => h) (Or.inl ⟨by rfl, ?_⟩) hHeld ?_ ?_
             rotate_left
             ·rintro w' ⟨s0, s1, s2, s3, s4, s5, s6⟩
              go_simp
              with_reducible rfl
             rotate_left
             ·simp only [Act.put, ssB, ssZ, ssS, i64_w, i32_w]
              rfl
             refine pure_ (i := 3) (N := some 113) (v := ?_) (a' := ?_) #[true, true, true, true, false, false, false, false, false, false, false, false, false, false, false, false] rfl rfl (any_of HT_.out (by kernel_rfl)) (fun _ _ _ h => h) (Or.inl ⟨by rfl, ?_⟩) ?_ ?_
             rotate_left
             ·intro w'
              go_simp
              with_reducible rfl
             rotate_left
             ·simp only [Act.put, ssB, ssZ, ssS, i64_w, i32_w]
              rfl
             refine take_ (i := 4) (N := some 114) (v := ?_) (a' := ?_) #[true, true, true, true, true, false, false, false, false, false, false, false, false, false, false, false] rfl rfl (take_ofW HT_.out HW_.out (by kernel_rfl)) (fun _ _ _ h => h) (Or.inl ⟨by rfl, ?_⟩) hHeld ?_ ?_
             rotate_left
             ·rintro w' ⟨s0, s1, s2, s3, s4, s5, s6⟩
              go_simp
              with_reducible rfl
             rotate_left
             ·simp only [Act.put, ssB, ssZ, ssS, i64_w, i32_w]
              rfl
             refine pure_ (i := 5) (N := some 115) (v := ?_) (a' := ?_) #[true, true, true, true, true, true, false, false, false, false, false, false, false, false, false, false] rfl rfl (any_of HT_.out (by kernel_rfl)) (fun _ _ _ h => h) (Or.inl ⟨by rfl, ?_⟩) ?_ ?_
             rotate_left
             ·intro w'
              go_simp
              with_reducible rfl
             rotate_left
             ·simp only [Act.put, ssB, ssZ, ssS, i64_w, i32_w]
              rfl
             refine pure_ (i := 6) (N := some 116) (v := ?_) (a' := ?_) #[true, true, true, true, true, true, true, false, false, false, false, false, false, false, false, false] rfl rfl (any_of HT_.out (by kernel_rfl)) (fun _ _ _ h => h) (Or.inl ⟨by rfl, ?_⟩) ?_ ?_
             rotate_left
             ·intro w'
              go_simp
              with_reducible rfl
             rotate_left
             ·simp only [Act.put, ssB, ssZ, ssS, i64_w, i32_w]
              rfl
             refine pure_ (i := 7) (N := some 117) (v := undef) (a' := ?_) #[true, true, true, true, true, true, true, true, false, false, false, false, false, false, false, false] rfl rfl (any_of HT_.out (by kernel_rfl)) (fun _ _ _ h => h) (Or.inr ⟨by rfl, rfl⟩) ?_ ?_
             rotate_left
             ·simp only [Act.put, ssB, ssZ, ssS, i64_w, i32_w]
              rfl
             refine pure_ (i := 8) (N := some 118) (v := undef) (a' := ?_) #[true, true, true, true, true, true, true, true, true, false, false, false, false, false, false, false] rfl rfl (any_of HT_.out (by kernel_rfl)) (fun _ _ _ h => h) (Or.inr ⟨by rfl, rfl⟩) ?_ ?_
             rotate_left
             ·simp only [Act.put, ssB, ssZ, ssS, i64_w, i32_w]
              rfl
             refine pure_ (i := 9) (N := some 119) (v := undef) (a' := ?_) #[true, true, true, true, true, true, true, true, true, true, false, false, false, false, false, false] rfl rfl (any_of HT_.out (by kernel_rfl)) (fun _ _ _ h => h) (Or.inr ⟨by rfl, rfl⟩) ?_ ?_
             rotate_left
             ·simp only [Act.put, ssB, ssZ, ssS, i64_w, i32_w]
              rfl
             refine pure_ (i := 10) (N := some 120) (v := undef) (a' := ?_) #[true, true, true, true, true, true, true, true, true, true, true, false, false, false, false, false] rfl rfl (any_of HT_.out (by kernel_rfl)) (fun _ _ _ h => h) (Or.inr ⟨by rfl, rfl⟩) ?_ ?_
             rotate_left
             ·simp only [Act.put, ssB, ssZ, ssS, i64_w, i32_w]
              rfl
             refine pure_ (i := 11) (N := some 121) (v := undef) (a' := ?_) #[true, true, true, true, true, true, true, true, true, true, true, true, false, false, false, false] rfl rfl (any_of HT_.out (by kernel_rfl)) (fun _ _ _ h => h) (Or.inr ⟨by rfl, rfl⟩) ?_ ?_
             rotate_left
             ·simp only [Act.put, ssB, ssZ, ssS, i64_w, i32_w]
              rfl
             refine pure_ (i := 12) (N := some 122) (v := undef) (a' := ?_) #[true, true, true, true, true, true, true, true, true, true, true, true, true, false, false, false] rfl rfl (any_of HT_.out (by kernel_rfl)) (fun _ _ _ h => h) (Or.inr ⟨by rfl, rfl⟩) ?_ ?_
             rotate_left
             ·simp only [Act.put, ssB, ssZ, ssS, i64_w, i32_w]
              rfl
             refine pure_ (i := 13) (N := some 123) (v := undef) (a' := ?_) #[true, true, true, true, true, true, true, true, true, true, true, true, true, true, false, false] rfl rfl (any_of HT_.out (by kernel_rfl)) (fun _ _ _ h => h) (Or.inr ⟨by rfl, rfl⟩) ?_ ?_
             rotate_left
             ·simp only [Act.put, ssB, ssZ, ssS, i64_w, i32_w]
              rfl
             refine pure_ (i := 14) (N := some 124) (v := undef) (a' := ?_) #[true, true, true, true, true, true, true, true, true, true, true, true, true, true, true, false] rfl rfl (any_of HT_.out (by kernel_rfl)) (fun _ _ _ h => h) (Or.inr ⟨by rfl, rfl⟩) ?_ ?_
             rotate_left
             ·simp only [Act.put, ssB, ssZ, ssS, i64_w, i32_w]
              rfl
             refine pure_ (i := 15) (N := some 125) (v := ?_) (a' := ?_) #[true, true, true, true, true, true, true, true, true, true, true, true, true, true, true, true] rfl rfl (any_of HT_.out (by kernel_rfl)) (fun _ _ _ h => h) (Or.inl ⟨by rfl, ?_⟩) ?_ ?_
             rotate_left
             ·intro w'
              go_simp
              with_reducible rfl
             rotate_left
             ·simp only [Act.put, ssB, ssZ, ssS, i64_w, i32_w]
              rfl
             refine done_ (done_of HT_.out (by kernel_rfl)) ?_
             try go_wp2
             go_meet
             case rel => exact ⟨_, (true), (by first | rfl | (simp; done) | (simp [*]; done)), H', ⟨by have := HJ1.out; have := HK2.out; have := HK3.out; first | omega | exact Nat.le_refl _⟩, ⟨by (with_reducible repeat (first | refine bN ?_ _ | refine bD ?_ | refine bA ?_ _)); exact BK155.out⟩, ⟨by repeat (first | (with_reducible first | exact HB.out | apply lA | apply lN | apply lD | refine lS ?_ GE155.out) | exact HB.out)⟩⟩
            ·rw [if_neg c50] at H
             have c50b0 : decide ((rd l0_3 x5_3) < (-2)) = false := decide_eq_false c50
             clear c50
             have H' := aaM H
             clear H
             try go_wp2
             have n0_ := aaM (bD BK155.out)
             have n1_ := aaM (lD HB.out)
             clear BK155 HB
             have BK155 := n0_
             have HB := n1_
             clear n0_ n1_
             have p162 : 0 ≤ (x5_3 : Int) := of_decide_eq_true (by first | (with_reducible assumption) | assumption)
             have q162 : x5_3 < (l0_3.length : Int) := of_decide_eq_true (by first | (with_reducible assumption) | assumption)
             obtain ⟨ad162, e162, hx162_0⟩ := Kd.at_int HR0_3.out x5_3 p162 q162
             have hw162_0 := hx162_0
             cases e162
             replace hx162_0 := (HB.out.cell (World.block_lt_of_cell? w _ hx162_0)).trans hx162_0
             replace p162 := eq_true p162
             replace q162 := eq_true q162
             have p163 : 0 ≤ (x5_3 : Int) := of_decide_eq_true (by first | (with_reducible assumption) | assumption)
             have q163 : x5_3 < (l0_3.length : Int) := of_decide_eq_true (by first | (with_reducible assumption) | assumption)
             obtain ⟨ad163, e163, hx163_0⟩ := Kd.at_int HR0_3.out x5_3 p163 q163
             have hw163_0 := hx163_0
             obtain rfl : ad162 = ad163 := (by injection e163)
             replace hx163_0 := (HB.out.cell (World.block_lt_of_cell? w _ hx163_0)).trans hx163_0
             replace p163 := eq_true p163
             replace q163 := eq_true q163
             refine start_ (n := 16) (S := fun w' => w'.cell? ⟨gb155, 0, none⟩ = some (.int .i64 a0_0) ∧ w'.cell? ⟨gb155, 1, none⟩ = some (.int .i64 a0_1) ∧ w'.cell? ⟨gb155, 2, none⟩ = some (.int .i64 a0_2) ∧ w'.cell? ⟨gb155, 3, none⟩ = some (.slice (some ad162) l0_3.length c0_3) ∧ w'.cell? ⟨gb155, 4, none⟩ = some (.slice A0_4 l0_4.length c0_4) ∧ w'.cell? ⟨gb155, 5, none⟩ = some (.bool a0_5) ∧ w'.cell? (ad162.add (x5_3).toNat) = some (.int .i64 (rd l0_3 x5_3)) ∧ w'.cell? (ad162.add (x5_3).toNat) = some (.int .i64 (rd l0_3 x5_3))) (ds := []) #[false, false, false, false, false, false, false, false, false, false, false, false, false, false, false, false] (by kernel_rfl) rfl rfl ⟨(bC BK155.out 0).trans rfl, (bC BK155.out 1).trans rfl, (bC BK155.out 2).trans rfl, (bC BK155.out 3).trans rfl, (bC BK155.out 4).trans rfl, (bC BK155.out 5).trans rfl, ((HB.out.cell (World.block_lt_of_cell? w _ hw162_0)).trans hw162_0), ((HB.out.cell (World.block_lt_of_cell? w _ hw163_0)).trans hw163_0)⟩ (fun hHeld => ?_); refine with_tabW hornbeamref21_May.tab14 hornbeamref21_May.bits14 (fun HT_ HW_ => ?_)
             generalize wr.drew = w52 at BK155 HB hx162_0 hx163_0 hHeld ⊢
             refine pure_ (i := 0) (N := some 110) (v := ?_) (a' := ?_) #[true, false, false, false, false, false, false, false, false, false, false, false, false, false, false, false] rfl rfl (any_of HT_.out (by kernel_rfl)) (fun _ _ _ h => h) (Or.inl ⟨by rfl, ?_⟩) ?_ ?_
             rotate_left
             ·intro w'
              go_simp
              with_reducible rfl
             rotate_left
             ·simp only [Act.put, ssB, ssZ, ssS, i64_w, i32_w]
              rfl
             refine pure_ (i := 2) (N := some 112) (v := ?_) (a' := ?_) #[true, false, true, false, false, false, false, false, false, false, false, false, false, false, false, false] rfl rfl (any_of HT_.out (by kernel_rfl)) (fun _ _ _ h => h) (Or.inl ⟨by rfl, ?_⟩) ?_ ?_
             rotate_left
             ·intro w'
              go_simp
              with_reducible rfl
             rotate_left
             ·simp only [Act.put, ssB, ssZ, ssS, i64_w, i32_w]
              rfl
             refine take_ (i := 1) (N := some 111) (v := ?_) (a' := ?_) #[true, true, true, false, false, false, false, false, false, false, false, false, false, false, false, false] rfl rfl (take_ofW HT_.out HW_.out (by kernel_rfl)) (fun _ _ _ h => h) (Or.inl ⟨by rfl, ?_⟩) hHeld ?_ ?_
             rotate_left
             ·rintro w' ⟨s0, s1, s2, s3, s4, s5, s6, s7⟩
              go_simp
              with_reducible rfl
             rotate_left
             ·simp only [Act.put, ssB, ssZ, ssS, i64_w, i32_w]
              rfl
             refine pure_ (i := 3) (N := some 113) (v := ?_) (a' := ?_) #[true, true, true, true, false, false, false, false, false, false, false, false, false, false, false, false] rfl rfl (any_of HT_.out (by kernel_rfl)) (fun _ _ _ h => h) (Or.inl ⟨by rfl, ?_⟩) ?_ ?_
             rotate_left
             ·intro w'
              go_simp
              with_reducible rfl
             rotate_left
             ·simp only [Act.put, ssB, ssZ, ssS, i64_w, i32_w]
              rfl
             refine take_ (i := 4) (N := some 114) (v := ?_) (a' := ?_) #[true, true, true, true, true, false, false, false, false, false, false, false, false, false, false, false] rfl rfl (take_ofW HT_.out HW_.out (by kernel_rfl)) (fun _ _ _ h => h) (Or.inl ⟨by rfl, ?_⟩) hHeld ?_ ?_
             rotate_left
             ·rintro w' ⟨s0, s1, s2, s3, s4, s5, s6, s7⟩
              go_simp
              with_reducible rfl
             rotate_left
             ·simp only [Act.put, ssB, ssZ, ssS, i64_w, i32_w]
              rfl
             refine pure_ (i := 5) (N := some 115) (v := ?_) (a' := ?_) #[true, true, true, true, true, true, false, false, false, false, false, false, false, false, false, false] rfl rfl (any_of HT_.out (by kernel_rfl)) (fun _ _ _ h => h) (Or.inl ⟨by rfl, ?_⟩) ?_ ?_
             rotate_left
             ·intro w'
              go_simp
              with_reducible rfl
             rotate_left
             ·simp only [Act.put, ssB, ssZ, ssS, i64_w, i32_w]
              rfl
             refine pure_ (i := 6) (N := some 116) (v := ?_) (a' := ?_) #[true, true, true, true, true, true, true, false, false, false, false, false, false, false, false, false] rfl rfl (any_of HT_.out (by kernel_rfl)) (fun _ _ _ h => h) (Or.inl ⟨by rfl, ?_⟩) ?_ ?_
             rotate_left
             ·intro w'
              go_simp
              with_reducible rfl
             rotate_left
             ·simp only [Act.put, ssB, ssZ, ssS, i64_w, i32_w]
              rfl
             refine pure_ (i := 7) (N := some 117) (v := ?_) (a' := ?_) #[true, true, true, true, true, true, true, true, false, false, false, false, false, false, false, false] rfl rfl (any_of HT_.out (by kernel_rfl)) (fun _ _ _ h => h) (Or.inl ⟨by rfl, ?_⟩) ?_ ?_
             rotate_left
             ·intro w'
              go_simp
              with_reducible rfl
             rotate_left
             ·simp only [Act.put, ssB, ssZ, ssS, i64_w, i32_w]
              rfl
             refine pure_ (i := 9) (N := some 119) (v := ?_) (a' := ?_) #[true, true, true, true, true, true, true, true, false, true, false, false, false, false, false, false] rfl rfl (any_of HT_.out (by kernel_rfl)) (fun _ _ _ h => h) (Or.inl ⟨by rfl, ?_⟩) ?_ ?_
             rotate_left
             ·intro w'
              go_simp
              with_reducible rfl
             rotate_left
             ·simp only [Act.put, ssB, ssZ, ssS, i64_w, i32_w]
              rfl
             refine pure_ (i := 12) (N := some 122) (v := ?_) (a' := ?_) #[true, true, true, true, true, true, true, true, false, true, false, false, true, false, false, false] rfl rfl (any_of HT_.out (by kernel_rfl)) (fun _ _ _ h => h) (Or.inl ⟨by rfl, ?_⟩) ?_ ?_
             rotate_left
             ·intro w'
              go_simp
              with_reducible rfl
             rotate_left
             ·simp only [Act.put, ssB, ssZ, ssS, i64_w, i32_w]
              rfl
             refine take_ (i := 8) (N := some 118) (v := ?_) (a' := ?_) #[true, true, true, true, true, true, true, true, true, true, false, false, true, false, false, false] rfl rfl (take_ofW HT_.out HW_.out (by kernel_rfl)) (fun _ _ _ h => h) (Or.inl ⟨by rfl, ?_⟩) hHeld ?_ ?_
             rotate_left
             ·rintro w' ⟨s0, s1, s2, s3, s4, s5, s6, s7⟩
              go_simp
              with_reducible rfl
             rotate_left
             ·simp only [Act.put, ssB, ssZ, ssS, i64_w, i32_w]
              rfl
             refine pure_ (i := 10) (N := some 120) (v := ?_) (a' := ?_) #[true, true, true, true, true, true, true, true, true, true, true, false, true, false, false, false] rfl rfl (any_of HT_.out (by kernel_rfl)) (fun _ _ _ h => h) (Or.inl ⟨by rfl, ?_⟩) ?_ ?_
             rotate_left
             ·intro w'
              go_simp
              with_reducible rfl
             rotate_left
             ·simp only [Act.put, ssB, ssZ, ssS, i64_w, i32_w]
              rfl
             refine take_ (i := 11) (N := some 121) (v := ?_) (a' := ?_) #[true, true, true, true, true, true, true, true, true, true, true, true, true, false, false, false] rfl rfl (take_ofW HT_.out HW_.out (by kernel_rfl)) (fun _ _ _ h => h) (Or.inl ⟨by rfl, ?_⟩) hHeld ?_ ?_
             rotate_left
             ·rintro w' ⟨s0, s1, s2, s3, s4, s5, s6, s7⟩
              go_simp
              with_reducible rfl
             rotate_left
             ·simp only [Act.put, ssB, ssZ, ssS, i64_w, i32_w]
              rfl
             refine take_ (i := 13) (N := some 123) (v := ?_) (a' := ?_) #[true, true, true, true, true, true, true, true, true, true, true, true, true, true, false, false] rfl rfl (take_ofW HT_.out HW_.out (by kernel_rfl)) (fun _ _ _ h => h) (Or.inl ⟨by rfl, ?_⟩) hHeld ?_ ?_
             rotate_left
             ·rintro w' ⟨s0, s1, s2, s3, s4, s5, s6, s7⟩
              go_simp
              with_reducible rfl
             rotate_left
             ·simp only [Act.put, ssB, ssZ, ssS, i64_w, i32_w]
              rfl
             refine pure_ (i := 14) (N := some 124) (v := ?_) (a' := ?_) #[true, true, true, true, true, true, true, true, true, true, true, true, true, true, true, false] rfl rfl (any_of HT_.out (by kernel_rfl)) (fun _ _ _ h => h) (Or.inl ⟨by rfl, ?_⟩) ?_ ?_
             rotate_left
             ·intro w'
              go_simp
              with_reducible rfl
             rotate_left
             ·simp only [Act.put, ssB, ssZ, ssS, i64_w, i32_w]
              rfl
             refine pure_ (i := 15) (N := some 125) (v := ?_) (a' := ?_) #[true, true, true, true, true, true, true, true, true, true, true, true, true, true, true, true] rfl rfl (any_of HT_.out (by kernel_rfl)) (fun _ _ _ h => h) (Or.inl ⟨by rfl, ?_⟩) ?_ ?_
             rotate_left
             ·intro w'
              go_simp
              with_reducible rfl
             rotate_left
             ·simp only [Act.put, ssB, ssZ, ssS, i64_w, i32_w]
              rfl
             refine done_ (done_of HT_.out (by kernel_rfl)) ?_
             try go_wp2
             go_meet
             case rel => exact ⟨_, (decide ((rd l0_3 x5_3) ≥ a0_2)), (by first | rfl | (simp; done) | (simp [*]; done)), H', ⟨by have := HJ1.out; have := HK2.out; have := HK3.out; first | omega | exact Nat.le_refl _⟩, ⟨by (with_reducible repeat (first | refine bN ?_ _ | refine bD ?_ | refine bA ?_ _)); exact BK155.out⟩, ⟨by repeat (first | (with_reducible first | exact HB.out | apply lA | apply lN | apply lD | refine lS ?_ GE155.out) | exact HB.out)⟩⟩
           ·rw [if_neg c49] at H
            exact absurd H (by simp)
          case rest =>
           clear HC47
           try clear c1
           try clear p1
           try clear q1
           try clear hx1
           try clear c2
           try clear p2
           try clear c3
           try clear q3
           try clear c4
           try clear c5
           try clear c10
           try clear c10b0
           try clear c12
           try clear c12b0
           try clear c12b1
           try clear c13
           try clear c13b0
           try clear c13b1
           try clear c14
           try clear c14b0
           try clear p15
           try clear q15
           try clear hx15
           try clear p16
           try clear q16
           try clear hx16
           try clear c19
           try clear c20
           try clear c20b0
           try clear c25
           try clear c25b0
           try clear c26
           try clear c26b0
           try clear c28
           try clear c28b0
           try clear c29
           try clear c29b0
           try clear c32
           try clear c33
           try clear c33b0
           try clear c34
           try clear c34b0
           try clear c35
           try clear c35b0
           try clear q36
           try clear c37
           try clear c38
           try clear c38b0
           try clear c38b1
           try clear c41
           try clear c41b0
           try clear c41b1
           try clear c46
           try clear c46b0
           try clear c49
           try clear c49b0
           try clear c50
           try clear c50b0
           try clear hcz11_0
           try clear hcz11_1
           try clear hcz11_2
           try clear hcz11_3
           try clear hcz11_4
           try clear hcz11_5
           try clear hcz15_0
           try clear hcz15_1
           try clear hcz15_2
           try clear hcz15_3
           try clear hcz15_4
           try clear hcz15_5
           try clear hcz16_0
           try clear hcz16_1
           try clear hcz16_2
           try clear hcz16_3
           try clear hcz16_4
           try clear hcz16_5
           try clear hcz17_0
           try clear hcz17_1
           try clear hcz17_2
           try clear hcz17_3
           try clear hcz17_4
           try clear hcz17_5
           try clear hcz18_0
           try clear hcz18_1
           try clear hcz18_2
           try clear hcz18_3
           try clear hcz18_4
           try clear hcz18_5
           try clear hcz23_0
           try clear hcz23_1
           try clear hcz23_2
           try clear hcz23_3
           try clear hcz23_4
           try clear hcz23_5
           try clear hcz27_0
           try clear hcz27_1
           try clear hcz27_2
           try clear hcz27_3
           try clear hcz27_4
           try clear hcz27_5
           try clear hcz30_0
           try clear hcz30_1
           try clear hcz30_2
           try clear hcz30_3
           try clear hcz30_4
           try clear hcz30_5
           try clear hcz31_0
           try clear hcz31_1
           try clear hcz31_2
           try clear hcz31_3
           try clear hcz31_4
           try clear hcz31_5
           try clear hcz39_0
           try clear hcz39_1
           try clear hcz39_2
           try clear hcz39_3
           try clear hcz39_4
           try clear hcz39_5
           try clear hcz40_0
           try clear hcz40_1
           try clear hcz40_2
           try clear hcz40_3
           try clear hcz40_4
           try clear hcz40_5
           try clear hcz42_0
           try clear hcz42_1
           try clear hcz42_2
           try clear hcz42_3
           try clear hcz42_4
           try clear hcz42_5
           try clear hcz43_0
           try clear hcz43_1
           try clear hcz43_2
           try clear hcz43_3
           try clear hcz43_4
           try clear hcz43_5
           try clear hcz44_0
           try clear hcz44_1
           try clear hcz44_2
           try clear hcz44_3
           try clear hcz44_4
           try clear hcz44_5
           try clear hcz45_0
           try clear hcz45_1
           try clear hcz45_2
           try clear hcz45_3
           try clear hcz45_4
           try clear hcz45_5
           try clear hcz48_0
           try clear hcz48_1
           try clear hcz48_2
           try clear hcz48_3
           try clear hcz48_4
           try clear hcz48_5
           try clear hcz5_0
           try clear hcz5_1
           try clear hcz5_2
           try clear hcz5_3
           try clear hcz5_4
           try clear hcz5_5
           try clear hcz7_0
           try clear hcz7_1
           try clear hcz7_2
           try clear hcz7_3
           try clear hcz7_4
           try clear hcz7_5
           try clear hcz9_0
           try clear hcz9_1
           try clear hcz9_2
           try clear hcz9_3
           try clear hcz9_4
           try clear hcz9_5
           try clear hfz11_0
           try clear hfz11_1
           try clear hfz11_2
           try clear hfz11_3
           try clear hfz11_4
           try clear hfz11_5
           try clear hfz15_0
           try clear hfz15_1
           try clear hfz15_2
           try clear hfz15_3
           try clear hfz15_4
           try clear hfz15_5
           try clear hfz16_0
           try clear hfz16_1
           try clear hfz16_2
           try clear hfz16_3
           try clear hfz16_4
           try clear hfz16_5
           try clear hfz17_0
           try clear hfz17_1
           try clear hfz17_2
           try clear hfz17_3
           try clear hfz17_4
           try clear hfz17_5
           try clear hfz18_0
           try clear hfz18_1
           try clear hfz18_2
           try clear hfz18_3
           try clear hfz18_4
           try clear hfz18_5
           try clear hfz23_0
           try clear hfz23_1
           try clear hfz23_2
           try clear hfz23_3
           try clear hfz23_4
           try clear hfz23_5
           try clear hfz27_0
           try clear hfz27_1
           try clear hfz27_2
           try clear hfz27_3
           try clear hfz27_4
           try clear hfz27_5
           try clear hfz30_0
           try clear hfz30_1
           try clear hfz30_2
           try clear hfz30_3
           try clear hfz30_4
           try clear hfz30_5
           try clear hfz31_0
           try clear hfz31_1
           try clear hfz31_2
           try clear hfz31_3
           try clear hfz31_4
           try clear hfz31_5
           try clear hfz39_0
           try clear hfz39_1
           try clear hfz39_2
           try clear hfz39_3
           try clear hfz39_4
           try clear hfz39_5
           try clear hfz40_0
           try clear hfz40_1
           try clear hfz40_2
           try clear hfz40_3
           try clear hfz40_4
           try clear hfz40_5
           try clear hfz42_0
           try clear hfz42_1
           try clear hfz42_2
           try clear hfz42_3
           try clear hfz42_4
           try clear hfz42_5
           try clear hfz43_0
           try clear hfz43_1
           try clear hfz43_2
           try clear hfz43_3
           try clear hfz43_4
           try clear hfz43_5
           try clear hfz44_0
           try clear hfz44_1
           try clear hfz44_2
           try clear hfz44_3
           try clear hfz44_4
           try clear hfz44_5
           try clear hfz45_0
           try clear hfz45_1
           try clear hfz45_2
           try clear hfz45_3
           try clear hfz45_4
           try clear hfz45_5
           try clear hfz48_0
           try clear hfz48_1
           try clear hfz48_2
           try clear hfz48_3
           try clear hfz48_4
           try clear hfz48_5
           try clear hfz5_0
           try clear hfz5_1
           try clear hfz5_2
           try clear hfz5_3
           try clear hfz5_4
           try clear hfz5_5
           try clear hfz7_0
           try clear hfz7_1
           try clear hfz7_2
           try clear hfz7_3
           try clear hfz7_4
           try clear hfz7_5
           try clear hfz9_0
           try clear hfz9_1
           try clear hfz9_2
           try clear hfz9_3
           try clear hfz9_4
           try clear hfz9_5
           try clear hx157_0
           try clear hx158_0
           try clear hx159_0
           try clear hx160_0
           try clear hx162_0
           try clear hx163_0
           try clear p1
           try clear p15
           try clear p157
           try clear p158
           try clear p159
           try clear p16
           try clear p160
           try clear p162
           try clear p163
           try clear p2
           try clear q1
           try clear q15
           try clear q157
           try clear q158
           try clear q159
           try clear q16
           try clear q160
           try clear q162
           try clear q163
           try clear q36
           obtain ⟨kq, x125_46, rfl, HA, HJ46, BK155, HB⟩ := hcut
           cases kq with
           | zero => exact absurd HA.out (by simp [hornbeamref21_May.j4])
           | succ kj46 =>
            have H := HA.out
            clear HA
            simp only [hornbeamref21_May.j4] at H
            by_cases c53 : x125_46 = true
            ·subst c53
             have H1 : (some false) = some r := by rw [if_pos rfl] at H; exact H
             clear H
             have H := H1
             clear H1
             obtain rfl := Option.some.inj H
             go_wp2
             all_goals (go_ret; exact ⟨by first | rfl | (simp [errW_none, errW_some] <;> rfl) | (simp [*, errW_none, errW_some] <;> rfl) | (simp_all; done), by repeat (first | (with_reducible first | exact HB.out | apply lA | apply lN | apply lD | refine lS ?_ GE155.out) | exact HB.out)⟩)
            ·replace c53 := Bool.eq_false_iff.mpr c53
             subst c53
             have H1 : (if 0 ≤ x5_3 then (if x5_3 < (l0_3.length : Int) then (if (rd l0_3 x5_3) = (-2) then (if a0_2 < a0_0 then (some false) else (hornbeamref21_May.l1 kj46 (wrap64 (x5_3 + 1)) a0_0 a0_1 a0_2 l0_3 l0_4 a0_5)) else (hornbeamref21_May.l1 kj46 (wrap64 (x5_3 + 1)) a0_0 a0_1 a0_2 l0_3 l0_4 a0_5)) else (none)) else (none)) = some r := by rw [if_neg (show ¬ (false = true) by decide)] at H; exact H
             clear H
             have H := H1
             clear H1
             by_cases c54 : 0 ≤ x5_3
             ·rw [if_pos c54] at H
              have c54b0 : decide (0 ≤ x5_3) = true := decide_eq_true c54
              clear c54
              by_cases c55 : x5_3 < (l0_3.length : Int)
              ·rw [if_pos c55] at H
               have c55b0 : decide (x5_3 < (l0_3.length : Int)) = true := decide_eq_true c55
               clear c55
               by_cases c56 : (rd l0_3 x5_3) = (-2)
               ·rw [if_pos c56] at H
                have c56b0 : ((rd l0_3 x5_3) == (-2)) = true := beq_iff_eq.mpr c56
                have c56b1 : ((rd l0_3 x5_3) != (-2)) = false := bne_eq_false_iff_eq.mpr c56
                clear c56
                by_cases c57 : a0_2 < a0_0
                ·rw [if_pos c57] at H
                 have c57b0 : decide (a0_2 < a0_0) = true := decide_eq_true c57
                 clear c57
                 obtain rfl := Option.some.inj H
                 have hcz58_0 : wc.cell? ⟨gb155, 0, none⟩ = some (.int .i64 a0_0) := (bC BK155.out 0).trans rfl
                 have hcz58_1 : wc.cell? ⟨gb155, 1, none⟩ = some (.int .i64 a0_1) := (bC BK155.out 1).trans rfl
                 have hcz58_2 : wc.cell? ⟨gb155, 2, none⟩ = some (.int .i64 a0_2) := (bC BK155.out 2).trans rfl
                 have hcz58_3 : wc.cell? ⟨gb155, 3, none⟩ = some (.slice A0_3 l0_3.length c0_3) := (bC BK155.out 3).trans rfl
                 have hcz58_4 : wc.cell? ⟨gb155, 4, none⟩ = some (.slice A0_4 l0_4.length c0_4) := (bC BK155.out 4).trans rfl
                 have hcz58_5 : wc.cell? ⟨gb155, 5, none⟩ = some (.bool a0_5) := (bC BK155.out 5).trans rfl
                 have hfz58_0 := bF BK155.out 0
                 have hfz58_1 := bF BK155.out 1
                 have hfz58_2 := bF BK155.out 2
                 have hfz58_3 := bF BK155.out 3
                 have hfz58_4 := bF BK155.out 4
                 have hfz58_5 := bF BK155.out 5
                 have p164 : 0 ≤ (x5_3 : Int) := of_decide_eq_true (by first | (with_reducible assumption) | assumption)
                 have q164 : x5_3 < (l0_3.length : Int) := of_decide_eq_true (by first | (with_reducible assumption) | assumption)
                 obtain ⟨ad164, e164, hx164_0⟩ := Kd.at_int HR0_3.out x5_3 p164 q164
                 cases e164
                 replace hx164_0 := (HB.out.cell (World.block_lt_of_cell? w _ hx164_0)).trans hx164_0
                 replace p164 := eq_true p164
                 replace q164 := eq_true q164
                 go_wp2
                 all_goals (go_ret; exact ⟨by first | rfl | (simp [errW_none, errW_some] <;> rfl) | (simp [*, errW_none, errW_some] <;> rfl) | (simp_all; done), by repeat (first | (with_reducible first | exact HB.out | apply lA | apply lN | apply lD | refine lS ?_ GE155.out) | exact HB.out)⟩)
                ·rw [if_neg c57] at H
                 have c57b0 : decide (a0_2 < a0_0) = false := decide_eq_false c57
                 clear c57
                 have H' := aaM H
                 clear H
                 have hcz59_0 : wc.cell? ⟨gb155, 0, none⟩ = some (.int .i64 a0_0) := (bC BK155.out 0).trans rfl
                 have hcz59_1 : wc.cell? ⟨gb155, 1, none⟩ = some (.int .i64 a0_1) := (bC BK155.out 1).trans rfl
                 have hcz59_2 : wc.cell? ⟨gb155, 2, none⟩ = some (.int .i64 a0_2) := (bC BK155.out 2).trans rfl
                 have hcz59_3 : wc.cell? ⟨gb155, 3, none⟩ = some (.slice A0_3 l0_3.length c0_3) := (bC BK155.out 3).trans rfl
                 have hcz59_4 : wc.cell? ⟨gb155, 4, none⟩ = some (.slice A0_4 l0_4.length c0_4) := (bC BK155.out 4).trans rfl
                 have hcz59_5 : wc.cell? ⟨gb155, 5, none⟩ = some (.bool a0_5) := (bC BK155.out 5).trans rfl
                 have hfz59_0 := bF BK155.out 0
                 have hfz59_1 := bF BK155.out 1
                 have hfz59_2 := bF BK155.out 2
                 have hfz59_3 := bF BK155.out 3
                 have hfz59_4 := bF BK155.out 4
                 have hfz59_5 := bF BK155.out 5
                 have p164 : 0 ≤ (x5_3 : Int) := of_decide_eq_true (by first | (with_reducible assumption) | assumption)
                 have q164 : x5_3 < (l0_3.length : Int) := of_decide_eq_true (by first | (with_reducible assumption) | assumption)
                 obtain ⟨ad164, e164, hx164_0⟩ := Kd.at_int HR0_3.out x5_3 p164 q164
                 cases e164
                 replace hx164_0 := (HB.out.cell (World.block_lt_of_cell? w _ hx164_0)).trans hx164_0
                 replace p164 := eq_true p164
                 replace q164 := eq_true q164
                 go_wp2
                 go_roundg kj46
                 case measure => have := HJ1.out; have := HK2.out; have := HK3.out; have := HJ46.out; omega
                 case rel => exact ⟨(wrap64 (x5_3 + 1)), (by first | rfl | (simp; done) | (simp [*]; done)), H', ⟨by have := HJ1.out; have := HK2.out; have := HK3.out; have := HJ46.out; omega⟩, ⟨by (with_reducible repeat (first | refine bN ?_ _ | refine bD ?_ | refine bA ?_ _)); exact BK155.out⟩, ⟨by repeat (first | (with_reducible first | exact HB.out | apply lA | apply lN | apply lD | refine lS ?_ GE155.out) | exact HB.out)⟩⟩
               ·rw [if_neg c56] at H
                have c56b0 : ((rd l0_3 x5_3) == (-2)) = false := beq_eq_false_iff_ne.mpr c56
                have c56b1 : ((rd l0_3 x5_3) != (-2)) = true := bne_iff_ne.mpr c56
                have H' := aaM H
                clear H
                have hcz60_0 : wc.cell? ⟨gb155, 0, none⟩ = some (.int .i64 a0_0) := (bC BK155.out 0).trans rfl
                have hcz60_1 : wc.cell? ⟨gb155, 1, none⟩ = some (.int .i64 a0_1) := (bC BK155.out 1).trans rfl
                have hcz60_2 : wc.cell? ⟨gb155, 2, none⟩ = some (.int .i64 a0_2) := (bC BK155.out 2).trans rfl
                have hcz60_3 : wc.cell? ⟨gb155, 3, none⟩ = some (.slice A0_3 l0_3.length c0_3) := (bC BK155.out 3).trans rfl
                have hcz60_4 : wc.cell? ⟨gb155, 4, none⟩ = some (.slice A0_4 l0_4.length c0_4) := (bC BK155.out 4).trans rfl
                have hcz60_5 : wc.cell? ⟨gb155, 5, none⟩ = some (.bool a0_5) := (bC BK155.out 5).trans rfl
                have hfz60_0 := bF BK155.out 0
                have hfz60_1 := bF BK155.out 1
                have hfz60_2 := bF BK155.out 2
                have hfz60_3 := bF BK155.out 3
                have hfz60_4 := bF BK155.out 4
                have hfz60_5 := bF BK155.out 5
                have p164 : 0 ≤ (x5_3 : Int) := of_decide_eq_true (by first | (with_reducible assumption) | assumption)
                have q164 : x5_3 < (l0_3.length : Int) := of_decide_eq_true (by first | (with_reducible assumption) | assumption)
                obtain ⟨ad164, e164, hx164_0⟩ := Kd.at_int HR0_3.out x5_3 p164 q164
                cases e164
                replace hx164_0 := (HB.out.cell (World.block_lt_of_cell? w _ hx164_0)).trans hx164_0
                replace p164 := eq_true p164
                replace q164 := eq_true q164
                go_wp2
                go_roundg kj46
                case measure => have := HJ1.out; have := HK2.out; have := HK3.out; have := HJ46.out; omega
                case rel => exact ⟨(wrap64 (x5_3 + 1)), (by first | rfl | (simp; done) | (simp [*]; done)), H', ⟨by have := HJ1.out; have := HK2.out; have := HK3.out; have := HJ46.out; omega⟩, ⟨by (with_reducible repeat (first | refine bN ?_ _ | refine bD ?_ | refine bA ?_ _)); exact BK155.out⟩, ⟨by repeat (first | (with_reducible first | exact HB.out | apply lA | apply lN | apply lD | refine lS ?_ GE155.out) | exact HB.out)⟩⟩
              ·rw [if_neg c55] at H
               exact absurd H (by simp)
             ·rw [if_neg c54] at H
              exact absurd H (by simp)
         ·rw [if_neg c46] at H
          have c46b0 : decide (x5_3 < (l0_3.length : Int)) = false := decide_eq_false c46
          clear c46
          by_cases c61 : a0_5 = true
          ·subst c61
           have H1 : ((hornbeamref21_does.f k3 a0_0 a0_1 a0_2 l0_3 l0_4 true (-2)).bind fun t161 => (some (t161 == a0_1))) = some r := by rw [if_pos rfl] at H; exact H
           clear H
           have H := H1
           clear H1
           replace H := ooB.mp H
           obtain ⟨t161, A620, H⟩ := H
           replace H : (some (t161 == a0_1)) = some r := H
           have A62 := aaM A620
           clear A620
           obtain rfl := Option.some.inj H
           have hcz63_0 : wr.cell? ⟨gb155, 0, none⟩ = some (.int .i64 a0_0) := (bC BK155.out 0).trans rfl
           have hcz63_1 : wr.cell? ⟨gb155, 1, none⟩ = some (.int .i64 a0_1) := (bC BK155.out 1).trans rfl
           have hcz63_2 : wr.cell? ⟨gb155, 2, none⟩ = some (.int .i64 a0_2) := (bC BK155.out 2).trans rfl
           have hcz63_3 : wr.cell? ⟨gb155, 3, none⟩ = some (.slice A0_3 l0_3.length c0_3) := (bC BK155.out 3).trans rfl
           have hcz63_4 : wr.cell? ⟨gb155, 4, none⟩ = some (.slice A0_4 l0_4.length c0_4) := (bC BK155.out 4).trans rfl
           have hcz63_5 : wr.cell? ⟨gb155, 5, none⟩ = some (.bool true) := (bC BK155.out 5).trans rfl
           have hfz63_0 := bF BK155.out 0
           have hfz63_1 := bF BK155.out 1
           have hfz63_2 := bF BK155.out 2
           have hfz63_3 := bF BK155.out 3
           have hfz63_4 := bF BK155.out 4
           have hfz63_5 := bF BK155.out 5
           try go_wp2
           have n0_ := aaM (bD BK155.out)
           have n1_ := aaM (lD HB.out)
           clear BK155 HB
           have BK155 := n0_
           have HB := n1_
           clear n0_ n1_
           refine start_ (n := 11) (S := fun w' => w'.cell? ⟨gb155, 0, none⟩ = some (.int .i64 a0_0) ∧ w'.cell? ⟨gb155, 1, none⟩ = some (.int .i64 a0_1) ∧ w'.cell? ⟨gb155, 2, none⟩ = some (.int .i64 a0_2) ∧ w'.cell? ⟨gb155, 3, none⟩ = some (.slice A0_3 l0_3.length c0_3) ∧ w'.cell? ⟨gb155, 4, none⟩ = some (.slice A0_4 l0_4.length c0_4) ∧ w'.cell? ⟨gb155, 5, none⟩ = some (.bool true)) (ds := []) #[false, false, false, false, false, false, false, false, false, false, false] (by kernel_rfl) rfl rfl ⟨(bC BK155.out 0).trans rfl, (bC BK155.out 1).trans rfl, (bC BK155.out 2).trans rfl, (bC BK155.out 3).trans rfl, (bC BK155.out 4).trans rfl, (bC BK155.out 5).trans rfl⟩ (fun hHeld => ?_); refine with_tabW hornbeamref21_May.tab18 hornbeamref21_May.bits18 (fun HT_ HW_ => ?_)
           generalize wr.drew = w64 at BK155 HB hHeld ⊢
           refine pure_ (i := 0) (N := some 139) (v := ?_) (a' := ?_) #[true, false, false, false, false, false, false, false, false, false, false] rfl rfl (any_of HT_.out (by kernel_rfl)) (fun _ _ _ h => h) (Or.inl ⟨by rfl, ?_⟩) ?_ ?_
           rotate_left
           ·intro w'
            go_simp
            with_reducible rfl
           rotate_left
           ·simp only [Act.put, ssB, ssZ, ssS, i64_w, i32_w]
            rfl
           refine take_ (i := 1) (N := some 140) (v := ?_) (a' := ?_) #[true, true, false, false, false, false, false, false, false, false, false] rfl rfl (take_ofW HT_.out HW_.out (by kernel_rfl)) (fun _ _ _ h => h) (Or.inl ⟨by rfl, ?_⟩) hHeld ?_ ?_
           rotate_left
           ·rintro w' ⟨s0, s1, s2, s3, s4, s5⟩
            go_simp
            with_reducible rfl
           rotate_left
           ·simp only [Act.put, ssB, ssZ, ssS, i64_w, i32_w]
            rfl
           refine pure_ (i := 2) (N := some 141) (v := ?_) (a' := ?_) #[true, true, true, false, false, false, false, false, false, false, false] rfl rfl (any_of HT_.out (by kernel_rfl)) (fun _ _ _ h => h) (Or.inl ⟨by rfl, ?_⟩) ?_ ?_
           rotate_left
           ·intro w'
            go_simp
            with_reducible rfl
           rotate_left
           ·simp only [Act.put, ssB, ssZ, ssS, i64_w, i32_w]
            rfl
           refine pure_ (i := 3) (N := some 142) (v := ?_) (a' := ?_) #[true, true, true, true, false, false, false, false, false, false, false] rfl rfl (any_of HT_.out (by kernel_rfl)) (fun _ _ _ h => h) (Or.inl ⟨by rfl, ?_⟩) ?_ ?_
           rotate_left
           ·intro w'
            go_simp
            with_reducible rfl
           rotate_left
           ·simp only [Act.put, ssB, ssZ, ssS, i64_w, i32_w]
            rfl
           refine pure_ (i := 6) (N := some 145) (v := ?_) (a' := ?_) #[true, true, true, true, false, false, true, false, false, false, false] rfl rfl (any_of HT_.out (by kernel_rfl)) (fun _ _ _ h => h) (Or.inl ⟨by rfl, ?_⟩) ?_ ?_
           rotate_left
           ·intro w'
            go_simp
            with_reducible rfl
           rotate_left
           ·simp only [Act.put, ssB, ssZ, ssS, i64_w, i32_w]
            rfl
           refine take_ (i := 4) (N := some 143) (v := ?_) (a' := ?_) #[true, true, true, true, true, false, true, false, false, false, false] rfl rfl (take_ofW HT_.out HW_.out (by kernel_rfl)) (fun _ _ _ h => h) (Or.inl ⟨by rfl, ?_⟩) hHeld ?_ ?_
           rotate_left
           ·rintro w' ⟨s0, s1, s2, s3, s4, s5⟩
            go_simp
            with_reducible rfl
           rotate_left
           ·simp only [Act.put, ssB, ssZ, ssS, i64_w, i32_w]
            rfl
           refine take_ (i := 7) (N := some 146) (v := ?_) (a' := ?_) #[true, true, true, true, true, false, true, true, false, false, false] rfl rfl (take_ofW HT_.out HW_.out (by kernel_rfl)) (fun _ _ _ h => h) (Or.inl ⟨by rfl, ?_⟩) hHeld ?_ ?_
           rotate_left
           ·rintro w' ⟨s0, s1, s2, s3, s4, s5⟩
            go_simp
            with_reducible rfl
           rotate_left
           ·simp only [Act.put, ssB, ssZ, ssS, i64_w, i32_w]
            rfl
           refine one_ (i := 5) (N := some 144) #[true, true, true, true, true, true, true, true, false, false, false] rfl rfl (one_of HT_.out (by kernel_rfl)) (by decide) (fun K hK => ?_)
           refine goes_ Try.func69 (by kernel_rfl) rfl #[.agg #[.int .i64 a0_0, .int .i64 a0_1, .int .i64 a0_2, .slice A0_3 l0_3.length c0_3, .slice A0_4 l0_4.length c0_4, .bool true], .int .i64 (-2)] (by rfl) rfl rfl (by (try simp only [List.map_toArray, List.map_cons, List.map_nil]); first | done | rfl | (simp only [List.length_drop, List.length_take]; rfl)) ?_
           with_reducible refine (hornbeamref21_does.calls k3 a0_0 a0_1 a0_2 _ _ l0_3 _ _ l0_4 true (-2) t161 _ ?side1 ?side2 ?side3 ?side4 A62.out).mono ?_
           (case side1 => repeat (first | exact (ccB HR0_3.out HB.out) | (with_reducible refine ccA ?_ _) | (with_reducible refine ccN ?_ _) | (with_reducible refine ccD ?_)))
           (case side2 => exact HC0_3.out)
           (case side3 => repeat (first | exact (ccB HR0_4.out HB.out) | (with_reducible refine ccA ?_ _) | (with_reducible refine ccN ?_ _) | (with_reducible refine ccD ?_)))
           (case side4 => exact HC0_4.out)
           rintro e w65 ⟨rfl, hb⟩
           refine ⟨_, rfl, ?_⟩
           have n0_ := aaM (bB (g := gb155) (o := .cells #[.int .i64 a0_0, .int .i64 a0_1, .int .i64 a0_2, .slice A0_3 l0_3.length c0_3, .slice A0_4 l0_4.length c0_4, .bool true] 42 (0, 0)) (by (with_reducible repeat (first | refine bN ?_ _ | refine bD ?_ | refine bA ?_ _)); exact BK155.out) hb)
           have n1_ := aaM (lP (by repeat (first | (with_reducible first | exact HB.out | apply lA | apply lN | apply lD | refine lS ?_ GE155.out) | exact HB.out)) hb)
           clear BK155 HB
           have BK155 := n0_
           have HB := n1_
           clear n0_ n1_
           (try clear hb)
           (try clear hb2)
           (try clear hk)
           (try clear hi)
           refine hK.out _ _ ⟨(bC BK155.out 0).trans rfl, (bC BK155.out 1).trans rfl, (bC BK155.out 2).trans rfl, (bC BK155.out 3).trans rfl, (bC BK155.out 4).trans rfl, (bC BK155.out 5).trans rfl⟩ (fun hHeld => ?_)
           clear hK K
           refine norm_ (a' := ?_) ?_ ?_
           rotate_left
           ·show Act.put _ (some 144) _ = _
            simp only [Act.put, ssB, ssZ, ssS, i64_w, i32_w]
            rfl
           refine pure_ (i := 8) (N := some 147) (v := ?_) (a' := ?_) #[true, true, true, true, true, true, true, true, true, false, false] rfl rfl (any_of HT_.out (by kernel_rfl)) (fun _ _ _ h => h) (Or.inl ⟨by rfl, ?_⟩) ?_ ?_
           rotate_left
           ·intro w'
            go_simp
            with_reducible rfl
           rotate_left
           ·simp only [Act.put, ssB, ssZ, ssS, i64_w, i32_w]
            rfl
           refine pure_ (i := 9) (N := some 148) (v := ?_) (a' := ?_) #[true, true, true, true, true, true, true, true, true, true, false] rfl rfl (any_of HT_.out (by kernel_rfl)) (fun _ _ _ h => h) (Or.inl ⟨by rfl, ?_⟩) ?_ ?_
           rotate_left
           ·intro w'
            go_simp
            with_reducible rfl
           rotate_left
           ·simp only [Act.put, ssB, ssZ, ssS, i64_w, i32_w]
            rfl
           refine pure_ (i := 10) (N := some 2) (v := ?_) (a' := ?_) #[true, true, true, true, true, true, true, true, true, true, true] rfl rfl (any_of HT_.out (by kernel_rfl)) (fun _ _ _ h => h) (Or.inl ⟨by rfl, ?_⟩) ?_ ?_
           rotate_left
           ·intro w'
            go_simp
            with_reducible rfl
           rotate_left
           ·simp only [Act.put, ssB, ssZ, ssS, i64_w, i32_w]
            rfl
           refine done_ (done_of HT_.out (by kernel_rfl)) ?_
           try go_wp2
           all_goals (go_ret; exact ⟨by first | rfl | (simp [errW_none, errW_some] <;> rfl) | (simp [*, errW_none, errW_some] <;> rfl) | (simp_all; done), by repeat (first | (with_reducible first | exact HB.out | apply lA | apply lN | apply lD | refine lS ?_ GE155.out) | exact HB.out)⟩)
          ·replace c61 := Bool.eq_false_iff.mpr c61
           subst c61
           have H1 : (some true) = some r := by rw [if_neg (show ¬ (false = true) by decide)] at H; exact H
           clear H
           have H := H1
           clear H1
           obtain rfl := Option.some.inj H
           have hcz66_0 : wr.cell? ⟨gb155, 0, none⟩ = some (.int .i64 a0_0) := (bC BK155.out 0).trans rfl
           have hcz66_1 : wr.cell? ⟨gb155, 1, none⟩ = some (.int .i64 a0_1) := (bC BK155.out 1).trans rfl
           have hcz66_2 : wr.cell? ⟨gb155, 2, none⟩ = some (.int .i64 a0_2) := (bC BK155.out 2).trans rfl
           have hcz66_3 : wr.cell? ⟨gb155, 3, none⟩ = some (.slice A0_3 l0_3.length c0_3) := (bC BK155.out 3).trans rfl
           have hcz66_4 : wr.cell? ⟨gb155, 4, none⟩ = some (.slice A0_4 l0_4.length c0_4) := (bC BK155.out 4).trans rfl
           have hcz66_5 : wr.cell? ⟨gb155, 5, none⟩ = some (.bool false) := (bC BK155.out 5).trans rfl
           have hfz66_0 := bF BK155.out 0
           have hfz66_1 := bF BK155.out 1
           have hfz66_2 := bF BK155.out 2
           have hfz66_3 := bF BK155.out 3
           have hfz66_4 := bF BK155.out 4
           have hfz66_5 := bF BK155.out 5
           try go_wp2
           have n0_ := aaM (bD BK155.out)
           have n1_ := aaM (lD HB.out)
           clear BK155 HB
           have BK155 := n0_
           have HB := n1_
           clear n0_ n1_
           refine start_ (n := 11) (S := fun w' => w'.cell? ⟨gb155, 0, none⟩ = some (.int .i64 a0_0) ∧ w'.cell? ⟨gb155, 1, none⟩ = some (.int .i64 a0_1) ∧ w'.cell? ⟨gb155, 2, none⟩ = some (.int .i64 a0_2) ∧ w'.cell? ⟨gb155, 3, none⟩ = some (.slice A0_3 l0_3.length c0_3) ∧ w'.cell? ⟨gb155, 4, none⟩ = some (.slice A0_4 l0_4.length c0_4) ∧ w'.cell? ⟨gb155, 5, none⟩ = some (.bool false)) (ds := []) #[false, false, false, false, false, false, false, false, false, false, false] (by kernel_rfl) rfl rfl ⟨(bC BK155.out 0).trans rfl, (bC BK155.out 1).trans rfl, (bC BK155.out 2).trans rfl, (bC BK155.out 3).trans rfl, (bC BK155.out 4).trans rfl, (bC BK155.out 5).trans rfl⟩ (fun hHeld => ?_); refine with_tabW hornbeamref21_May.tab18 hornbeamref21_May.bits18 (fun HT_ HW_ => ?_)
           generalize wr.drew = w67 at BK155 HB hHeld ⊢
           refine pure_ (i := 0) (N := some 139) (v := ?_) (a' := ?_) #[true, false, false, false, false, false, false, false, false, false, false] rfl rfl (any_of HT_.out (by kernel_rfl)) (fun _ _ _ h => h) (Or.inl ⟨by rfl, ?_⟩) ?_ ?_
           rotate_left
           ·intro w'
            go_simp
            with_reducible rfl
           rotate_left
           ·simp only [Act.put, ssB, ssZ, ssS, i64_w, i32_w]
            rfl
           refine take_ (i := 1) (N := some 140) (v := ?_) (a' := ?_) #[true, true, false, false, false, false, false, false, false, false, false] rfl rfl (take_ofW HT_.out HW_.out (by kernel_rfl)) (fun _ _ _ h => h) (Or.inl ⟨by rfl, ?_⟩) hHeld ?_ ?_
           rotate_left
           ·rintro w' ⟨s0, s1, s2, s3, s4, s5⟩
            go_simp
            with_reducible rfl
           rotate_left
           ·simp only [Act.put, ssB, ssZ, ssS, i64_w, i32_w]
            rfl
           refine pure_ (i := 2) (N := some 141) (v := ?_) (a' := ?_) #[true, true, true, false, false, false, false, false, false, false, false] rfl rfl (any_of HT_.out (by kernel_rfl)) (fun _ _ _ h => h) (Or.inl ⟨by rfl, ?_⟩) ?_ ?_
           rotate_left
           ·intro w'
            go_simp
            with_reducible rfl
           rotate_left
           ·simp only [Act.put, ssB, ssZ, ssS, i64_w, i32_w]
            rfl
           refine pure_ (i := 3) (N := some 142) (v := ?_) (a' := ?_) #[true, true, true, true, false, false, false, false, false, false, false] rfl rfl (any_of HT_.out (by kernel_rfl)) (fun _ _ _ h => h) (Or.inl ⟨by rfl, ?_⟩) ?_ ?_
           rotate_left
           ·intro w'
            go_simp
            with_reducible rfl
           rotate_left
           ·simp only [Act.put, ssB, ssZ, ssS, i64_w, i32_w]
            rfl
           refine pure_ (i := 4) (N := some 143) (v := undef) (a' := ?_) #[true, true, true, true, true, false, false, false, false, false, false] rfl rfl (any_of HT_.out (by kernel_rfl)) (fun _ _ _ h => h) (Or.inr ⟨by rfl, rfl⟩) ?_ ?_
           rotate_left
           ·simp only [Act.put, ssB, ssZ, ssS, i64_w, i32_w]
            rfl
           refine pure_ (i := 5) (N := some 144) (v := undef) (a' := ?_) #[true, true, true, true, true, true, false, false, false, false, false] rfl rfl (any_of HT_.out (by kernel_rfl)) (fun _ _ _ h => h) (Or.inr ⟨by rfl, rfl⟩) ?_ ?_
           rotate_left
           ·simp only [Act.put, ssB, ssZ, ssS, i64_w, i32_w]
            rfl
           refine pure_ (i := 6) (N := some 145) (v := undef) (a' := ?_) #[true, true, true, true, true, true, true, false, false, false, false] rfl rfl (any_of HT_.out (by kernel_rfl)) (fun _ _ _ h => h) (Or.inr ⟨by rfl, rfl⟩) ?_ ?_
           rotate_left
           ·simp only [Act.put, ssB, ssZ, ssS, i64_w, i32_w]
            rfl
           refine pure_ (i := 7) (N := some 146) (v := undef) (a' := ?_) #[true, true, true, true, true, true, true, true, false, false, false] rfl rfl (any_of HT_.out (by kernel_rfl)) (fun _ _ _ h => h) (Or.inr ⟨by rfl, rfl⟩) ?_ ?_
           rotate_left
           ·simp only [Act.put, ssB, ssZ, ssS, i64_w, i32_w]
            rfl
           refine pure_ (i := 8) (N := some 147) (v := undef) (a' := ?_) #[true, true, true, true, true, true, true, true, true, false, false] rfl rfl (any_of HT_.out (by kernel_rfl)) (fun _ _ _ h => h) (Or.inr ⟨by rfl, rfl⟩) ?_ ?_
           rotate_left
           ·simp only [Act.put, ssB, ssZ, ssS, i64_w, i32_w]
            rfl
           refine pure_ (i := 9) (N := some 148) (v := ?_) (a' := ?_) #[true, true, true, true, true, true, true, true, true, true, false] rfl rfl (any_of HT_.out (by kernel_rfl)) (fun _ _ _ h => h) (Or.inl ⟨by rfl, ?_⟩) ?_ ?_
           rotate_left
           ·intro w'
            go_simp
            with_reducible rfl
           rotate_left
           ·simp only [Act.put, ssB, ssZ, ssS, i64_w, i32_w]
            rfl
           refine pure_ (i := 10) (N := some 2) (v := ?_) (a' := ?_) #[true, true, true, true, true, true, true, true, true, true, true] rfl rfl (any_of HT_.out (by kernel_rfl)) (fun _ _ _ h => h) (Or.inl ⟨by rfl, ?_⟩) ?_ ?_
           rotate_left
           ·intro w'
            go_simp
            with_reducible rfl
           rotate_left
           ·simp only [Act.put, ssB, ssZ, ssS, i64_w, i32_w]
            rfl
           refine done_ (done_of HT_.out (by kernel_rfl)) ?_
           try go_wp2
           all_goals (go_ret; exact ⟨by first | rfl | (simp [errW_none, errW_some] <;> rfl) | (simp [*, errW_none, errW_some] <;> rfl) | (simp_all; done), by repeat (first | (with_reducible first | exact HB.out | apply lA | apply lN | apply lD | refine lS ?_ GE155.out) | exact HB.out)⟩)

end Go.Proofs.Ytoonddgldmfleaa.QSchedPlays
