-- Written by a program of this session (wip/tools/mkprint.py over the kit's print); Lean checks it.
import Derived.Test.YtoonddgldmfleaaQSchedPlaysx0
namespace Go.Proofs.Ytoonddgldmfleaa.QSchedPlays
open Go.RowKit Go.Proofs.YtoonddgldmfleaaW.PrintWords Go.Proofs.YtoonddgldmfleaaW.PrintLast Go.Proofs.YtoonddgldmfleaaW.PrintMore
attribute [local go_sem] max2_int min2_int max_two min_two max_three min_three max_four min_four   -- for this text's walks alone
set_option linter.unusedVariables false
set_option linter.unusedSimpArgs false

/-! ### hornbeamref21_Same: function 25 -/
mutual
def hornbeamref21_Same.j0 : Nat → Bool → Int → Int → Int → List Int → List Bool → Bool → Int → Int → Int → List Int → List Bool → Bool → Option (Bool)
 | 0, _, _, _, _, _, _, _, _, _, _, _, _, _ => none
 | k + 1, x50, x254000, x254001, x254002, x254003, x254004, x254005, x255000, x255001, x255002, x255003, x255004, x255005 => if x50 = true then (some false) else (hornbeamref21_Same.l0 k 0 x254000 x254001 x254002 x254003 x254004 x254005 x255000 x255001 x255002 x255003 x255004 x255005)
def hornbeamref21_Same.l0 : Nat → Int → Int → Int → Int → List Int → List Bool → Bool → Int → Int → Int → List Int → List Bool → Bool → Option (Bool)
 | 0, _, _, _, _, _, _, _, _, _, _, _, _, _ => none
 | k + 1, x5, x254000, x254001, x254002, x254003, x254004, x254005, x255000, x255001, x255002, x255003, x255004, x255005 => if x5 < (x254003.length : Int) then (if 0 ≤ x5 then (if x5 < (x255003.length : Int) then (if (rd x254003 x5) = (rd x255003 x5) then (hornbeamref21_Same.l0 k (wrap64 (x5 + 1)) x254000 x254001 x254002 x254003 x254004 x254005 x255000 x255001 x255002 x255003 x255004 x255005) else (some false)) else (none)) else (none)) else (hornbeamref21_Same.l1 k 0 x254000 x254001 x254002 x254003 x254004 x254005 x255000 x255001 x255002 x255003 x255004 x255005)
def hornbeamref21_Same.l1 : Nat → Int → Int → Int → Int → List Int → List Bool → Bool → Int → Int → Int → List Int → List Bool → Bool → Option (Bool)
 | 0, _, _, _, _, _, _, _, _, _, _, _, _, _ => none
 | k + 1, x6, x254000, x254001, x254002, x254003, x254004, x254005, x255000, x255001, x255002, x255003, x255004, x255005 => if x6 < (x254004.length : Int) then (if 0 ≤ x6 then (if x6 < (x255004.length : Int) then (if ((rdOf false x254004 x6) != (rdOf false x255004 x6)) = true then (some false) else (hornbeamref21_Same.l1 k (wrap64 (x6 + 1)) x254000 x254001 x254002 x254003 x254004 x254005 x255000 x255001 x255002 x255003 x255004 x255005)) else (none)) else (none)) else (some true)
end
def hornbeamref21_Same.f (k : Nat) (a0_0 : Int) (a0_1 : Int) (a0_2 : Int) (l0_3 : List Int) (l0_4 : List Bool) (a0_5 : Bool) (a1_0 : Int) (a1_1 : Int) (a1_2 : Int) (l1_3 : List Int) (l1_4 : List Bool) (a1_5 : Bool) : Option (Bool) := if a0_0 = a1_0 then (if a0_1 = a1_1 then (if a0_2 = a1_2 then (if (a0_5 != a1_5) = true then (hornbeamref21_Same.j0 k true a0_0 a0_1 a0_2 l0_3 l0_4 a0_5 a1_0 a1_1 a1_2 l1_3 l1_4 a1_5) else (if (l0_3.length : Int) = (l1_3.length : Int) then (hornbeamref21_Same.j0 k ((l0_4.length : Int) != (l1_4.length : Int)) a0_0 a0_1 a0_2 l0_3 l0_4 a0_5 a1_0 a1_1 a1_2 l1_3 l1_4 a1_5) else (hornbeamref21_Same.j0 k true a0_0 a0_1 a0_2 l0_3 l0_4 a0_5 a1_0 a1_1 a1_2 l1_3 l1_4 a1_5))) else (hornbeamref21_Same.j0 k true a0_0 a0_1 a0_2 l0_3 l0_4 a0_5 a1_0 a1_1 a1_2 l1_3 l1_4 a1_5)) else (hornbeamref21_Same.j0 k true a0_0 a0_1 a0_2 l0_3 l0_4 a0_5 a1_0 a1_1 a1_2 l1_3 l1_4 a1_5)) else (hornbeamref21_Same.j0 k true a0_0 a0_1 a0_2 l0_3 l0_4 a0_5 a1_0 a1_1 a1_2 l1_3 l1_4 a1_5)
theorem hornbeamref21_Same.mono_l : ∀ k, (∀ y0 y1 y2 y3 y4 y5 y6 y7 y8 y9 y10 y11 y12, LeO (hornbeamref21_Same.j0 k y0 y1 y2 y3 y4 y5 y6 y7 y8 y9 y10 y11 y12) (hornbeamref21_Same.j0 (k + 1) y0 y1 y2 y3 y4 y5 y6 y7 y8 y9 y10 y11 y12)) ∧ (∀ y0 y1 y2 y3 y4 y5 y6 y7 y8 y9 y10 y11 y12, LeO (hornbeamref21_Same.l0 k y0 y1 y2 y3 y4 y5 y6 y7 y8 y9 y10 y11 y12) (hornbeamref21_Same.l0 (k + 1) y0 y1 y2 y3 y4 y5 y6 y7 y8 y9 y10 y11 y12)) ∧ (∀ y0 y1 y2 y3 y4 y5 y6 y7 y8 y9 y10 y11 y12, LeO (hornbeamref21_Same.l1 k y0 y1 y2 y3 y4 y5 y6 y7 y8 y9 y10 y11 y12) (hornbeamref21_Same.l1 (k + 1) y0 y1 y2 y3 y4 y5 y6 y7 y8 y9 y10 y11 y12))
 | 0 => ⟨fun _ _ _ _ _ _ _ _ _ _ _ _ _ r h => by simp [hornbeamref21_Same.j0] at h, fun _ _ _ _ _ _ _ _ _ _ _ _ _ r h => by simp [hornbeamref21_Same.l0] at h, fun _ _ _ _ _ _ _ _ _ _ _ _ _ r h => by simp [hornbeamref21_Same.l1] at h⟩
 | k + 1 => by
  obtain ⟨ih0, ih1, ih2⟩ := hornbeamref21_Same.mono_l k
  refine ⟨?_, ?_, ?_⟩
  ·intro y0 y1 y2 y3 y4 y5 y6 y7 y8 y9 y10 y11 y12
   unfold hornbeamref21_Same.j0
   repeat' first
   | (with_reducible exact ih0 _ _ _ _ _ _ _ _ _ _ _ _ _)
   | (with_reducible exact ih1 _ _ _ _ _ _ _ _ _ _ _ _ _)
   | (with_reducible exact ih2 _ _ _ _ _ _ _ _ _ _ _ _ _)
   | (with_reducible exact LeO.refl _)
   | (with_reducible exact LeO.none _)
   | (with_reducible refine LeO.ite ?_ ?_)
   | (with_reducible refine LeO.bind ?_ (fun _ => ?_))
   | exact ih0 _ _ _ _ _ _ _ _ _ _ _ _ _
   | exact ih1 _ _ _ _ _ _ _ _ _ _ _ _ _
   | exact ih2 _ _ _ _ _ _ _ _ _ _ _ _ _
   | exact LeO.none _
   | refine LeO.ite ?_ ?_
   | refine LeO.bind ?_ (fun _ => ?_)
  ·intro y0 y1 y2 y3 y4 y5 y6 y7 y8 y9 y10 y11 y12
   unfold hornbeamref21_Same.l0
   repeat' first
   | (with_reducible exact ih0 _ _ _ _ _ _ _ _ _ _ _ _ _)
   | (with_reducible exact ih1 _ _ _ _ _ _ _ _ _ _ _ _ _)
   | (with_reducible exact ih2 _ _ _ _ _ _ _ _ _ _ _ _ _)
   | (with_reducible exact LeO.refl _)
   | (with_reducible exact LeO.none _)
   | (with_reducible refine LeO.ite ?_ ?_)
   | (with_reducible refine LeO.bind ?_ (fun _ => ?_))
   | exact ih0 _ _ _ _ _ _ _ _ _ _ _ _ _
   | exact ih1 _ _ _ _ _ _ _ _ _ _ _ _ _
   | exact ih2 _ _ _ _ _ _ _ _ _ _ _ _ _
   | exact LeO.none _
   | refine LeO.ite ?_ ?_
   | refine LeO.bind ?_ (fun _ => ?_)
  ·intro y0 y1 y2 y3 y4 y5 y6 y7 y8 y9 y10 y11 y12
   unfold hornbeamref21_Same.l1
   repeat' first
   | (with_reducible exact ih0 _ _ _ _ _ _ _ _ _ _ _ _ _)
   | (with_reducible exact ih1 _ _ _ _ _ _ _ _ _ _ _ _ _)
   | (with_reducible exact ih2 _ _ _ _ _ _ _ _ _ _ _ _ _)
   | (with_reducible exact LeO.refl _)
   | (with_reducible exact LeO.none _)
   | (with_reducible refine LeO.ite ?_ ?_)
   | (with_reducible refine LeO.bind ?_ (fun _ => ?_))
   | exact ih0 _ _ _ _ _ _ _ _ _ _ _ _ _
   | exact ih1 _ _ _ _ _ _ _ _ _ _ _ _ _
   | exact ih2 _ _ _ _ _ _ _ _ _ _ _ _ _
   | exact LeO.none _
   | refine LeO.ite ?_ ?_
   | refine LeO.bind ?_ (fun _ => ?_)
theorem hornbeamref21_Same.mono : ∀ a0 a1 a2 a3 a4 a5 a6 a7 a8 a9 a10 a11 k, LeO (hornbeamref21_Same.f k a0 a1 a2 a3 a4 a5 a6 a7 a8 a9 a10 a11) (hornbeamref21_Same.f (k + 1) a0 a1 a2 a3 a4 a5 a6 a7 a8 a9 a10 a11) := by
 intro a0 a1 a2 a3 a4 a5 a6 a7 a8 a9 a10 a11 k
 obtain ⟨ih0, ih1, ih2⟩ := hornbeamref21_Same.mono_l k
 unfold hornbeamref21_Same.f
 repeat' first
   | (with_reducible exact ih0 _ _ _ _ _ _ _ _ _ _ _ _ _)
   | (with_reducible exact ih1 _ _ _ _ _ _ _ _ _ _ _ _ _)
   | (with_reducible exact ih2 _ _ _ _ _ _ _ _ _ _ _ _ _)
   | (with_reducible exact LeO.refl _)
   | (with_reducible exact LeO.none _)
   | (with_reducible refine LeO.ite ?_ ?_)
   | (with_reducible refine LeO.bind ?_ (fun _ => ?_))
   | exact ih0 _ _ _ _ _ _ _ _ _ _ _ _ _
   | exact ih1 _ _ _ _ _ _ _ _ _ _ _ _ _
   | exact ih2 _ _ _ _ _ _ _ _ _ _ _ _ _
   | exact LeO.none _
   | refine LeO.ite ?_ ?_
   | refine LeO.bind ?_ (fun _ => ?_)
set_option maxHeartbeats 8000000 in
set_option maxRecDepth 100000 in
theorem hornbeamref21_Same.calls (k : Nat) (a0_0 : Int) (a0_1 : Int) (a0_2 : Int) (A0_3 : Option Addr) (c0_3 : Nat) (l0_3 : List Int) (A0_4 : Option Addr) (c0_4 : Nat) (l0_4 : List Bool) (a0_5 : Bool) (a1_0 : Int) (a1_1 : Int) (a1_2 : Int) (A1_3 : Option Addr) (c1_3 : Nat) (l1_3 : List Int) (A1_4 : Option Addr) (c1_4 : Nat) (l1_4 : List Bool) (a1_5 : Bool) (r : Bool) (w : World) (hr0_3 : Kd.C (Kd.int .i64) w A0_3 l0_3.length l0_3) (hc0_3 : l0_3.length ≤ c0_3) (hr0_4 : Kd.C Kd.bool w A0_4 l0_4.length l0_4) (hc0_4 : l0_4.length ≤ c0_4) (hr1_3 : Kd.C (Kd.int .i64) w A1_3 l1_3.length l1_3) (hc1_3 : l1_3.length ≤ c1_3) (hr1_4 : Kd.C Kd.bool w A1_4 l1_4.length l1_4) (hc1_4 : l1_4.length ≤ c1_4) (h : hornbeamref21_Same.f k a0_0 a0_1 a0_2 l0_3 l0_4 a0_5 a1_0 a1_1 a1_2 l1_3 l1_4 a1_5 = some r) :
  Calls Try.prog 25 #[.agg #[.int .i64 a0_0, .int .i64 a0_1, .int .i64 a0_2, .slice A0_3 l0_3.length c0_3, .slice A0_4 l0_4.length c0_4, .bool a0_5], .agg #[.int .i64 a1_0, .int .i64 a1_1, .int .i64 a1_2, .slice A1_3 l1_3.length c1_3, .slice A1_4 l1_4.length c1_4, .bool a1_5]] w fun e w' => e = .returned (.bool r) ∧ Below w.heap.size w w' := by
 have hu42 := Try.underlying42
 have HR0_3 := aaM hr0_3
 have HC0_3 := aaM hc0_3
 clear hr0_3 hc0_3
 have HR0_4 := aaM hr0_4
 have HC0_4 := aaM hc0_4
 clear hr0_4 hc0_4
 have HR1_3 := aaM hr1_3
 have HC1_3 := aaM hc1_3
 clear hr1_3 hc1_3
 have HR1_4 := aaM hr1_4
 have HC1_4 := aaM hc1_4
 clear hr1_4 hc1_4
 have HB := aaM (Below.refl w.heap.size w)
 have H : (if a0_0 = a1_0 then (if a0_1 = a1_1 then (if a0_2 = a1_2 then (if (a0_5 != a1_5) = true then (hornbeamref21_Same.j0 k true a0_0 a0_1 a0_2 l0_3 l0_4 a0_5 a1_0 a1_1 a1_2 l1_3 l1_4 a1_5) else (if (l0_3.length : Int) = (l1_3.length : Int) then (hornbeamref21_Same.j0 k ((l0_4.length : Int) != (l1_4.length : Int)) a0_0 a0_1 a0_2 l0_3 l0_4 a0_5 a1_0 a1_1 a1_2 l1_3 l1_4 a1_5) else (hornbeamref21_Same.j0 k true a0_0 a0_1 a0_2 l0_3 l0_4 a0_5 a1_0 a1_1 a1_2 l1_3 l1_4 a1_5))) else (hornbeamref21_Same.j0 k true a0_0 a0_1 a0_2 l0_3 l0_4 a0_5 a1_0 a1_1 a1_2 l1_3 l1_4 a1_5)) else (hornbeamref21_Same.j0 k true a0_0 a0_1 a0_2 l0_3 l0_4 a0_5 a1_0 a1_1 a1_2 l1_3 l1_4 a1_5)) else (hornbeamref21_Same.j0 k true a0_0 a0_1 a0_2 l0_3 l0_4 a0_5 a1_0 a1_1 a1_2 l1_3 l1_4 a1_5)) = some r := h
 clear h
 have HC3 := aaM H
 clear H
 go_enter Try.func25, Try.ntmps25
 go_upto_region 1 with (first | ((with_reducible refine gate_dst (N := 2) rfl ?_); (try (refine gate_guard (by rfl) ?_; dsimp only)); refine box_event ?hg (N := 2) ?hd (cs := #[.int .i64 a0_0, .int .i64 a0_1, .int .i64 a0_2, .slice A0_3 l0_3.length c0_3, .slice A0_4 l0_4.length c0_4, .bool a0_5]) (t := 42) ?hr ?_; (case hd => rfl); (case hg => rfl); (case hr => first | (go_simp; done) | (go_simp; rfl)); intro gb253 hg w4 hbox hb; have n0_ := aaM (lP (by repeat (first | (with_reducible first | exact HB.out | apply lA | apply lN | apply lD) | exact HB.out)) hb); have n1_ := aaM (hbox); have n2_ := aaM ((by rw [hg]; exact (lZ (by repeat (first | (with_reducible first | exact HB.out | apply lA | apply lN | apply lD) | exact HB.out))) : w.heap.size ≤ gb253)); have n3_ := aaM ((by rw [hg]; exact (lZ (by repeat (first | (with_reducible first | exact HB.out | apply lA | apply lN | apply lD) | exact HB.out))) : w.heap.size ≤ gb253)); clear HB; have HB := n0_; have BK253 := n1_; have GW253 := n2_; have GE253 := n3_; clear n0_ n1_ n2_ n3_; clear hb hbox hg) | ((with_reducible refine gate_dst (N := 3) rfl ?_); (try (refine gate_guard (by rfl) ?_; dsimp only)); refine box_event ?hg (N := 3) ?hd (cs := #[.int .i64 a1_0, .int .i64 a1_1, .int .i64 a1_2, .slice A1_3 l1_3.length c1_3, .slice A1_4 l1_4.length c1_4, .bool a1_5]) (t := 42) ?hr ?_; (case hd => rfl); (case hg => rfl); (case hr => first | (go_simp; done) | (go_simp; rfl)); intro gb254 hg w5 hbox hb; have n0_ := aaM (bB (g := gb253) (o := .cells #[.int .i64 a0_0, .int .i64 a0_1, .int .i64 a0_2, .slice A0_3 l0_3.length c0_3, .slice A0_4 l0_4.length c0_4, .bool a0_5] 42 (0, 0)) (by (with_reducible repeat (first | refine bN ?_ _ | refine bD ?_ | refine bA ?_ _)); exact BK253.out) hb); have n1_ := aaM (lP (by repeat (first | (with_reducible first | exact HB.out | apply lA | apply lN | apply lD | refine lS ?_ GE253.out) | exact HB.out)) hb); have n2_ := aaM (hbox); have n3_ := aaM ((by rw [hg]; exact (lZ (by repeat (first | (with_reducible first | exact HB.out | apply lA | apply lN | apply lD | refine lS ?_ GE253.out) | exact HB.out))) : w.heap.size ≤ gb254)); have n4_ := aaM ((by rw [hg]; exact (lZ (by repeat (first | (with_reducible first | exact HB.out | apply lA | apply lN | apply lD | refine lS ?_ GE253.out) | exact HB.out))) : w.heap.size ≤ gb254)); have n5_ := aaM ((by rw [hg]; exact Nat.ne_of_lt (bL (g := gb253) (by (with_reducible repeat (first | refine bN ?_ _ | refine bD ?_ | refine bA ?_ _)); exact BK253.out)) : gb253 ≠ gb254)); have n6_ := aaM ((by rw [hg]; exact Nat.ne_of_gt (bL (g := gb253) (by (with_reducible repeat (first | refine bN ?_ _ | refine bD ?_ | refine bA ?_ _)); exact BK253.out)) : gb254 ≠ gb253)); clear BK253; clear HB; have BK253 := n0_; have HB := n1_; have BK254 := n2_; have GW254 := n3_; have GE254 := n4_; have NB253_254 := n5_; have NB254_253 := n6_; clear n0_ n1_ n2_ n3_ n4_ n5_ n6_; clear hb hbox hg))
 repeat (go_quiet (first | ((with_reducible refine gate_dst (N := 2) rfl ?_); (try (refine gate_guard (by rfl) ?_; dsimp only)); refine box_event ?hg (N := 2) ?hd (cs := #[.int .i64 a0_0, .int .i64 a0_1, .int .i64 a0_2, .slice A0_3 l0_3.length c0_3, .slice A0_4 l0_4.length c0_4, .bool a0_5]) (t := 42) ?hr ?_; (case hd => rfl); (case hg => rfl); (case hr => first | (go_simp; done) | (go_simp; rfl)); intro gb253 hg w4 hbox hb; have n0_ := aaM (lP (by repeat (first | (with_reducible first | exact HB.out | apply lA | apply lN | apply lD) | exact HB.out)) hb); have n1_ := aaM (hbox); have n2_ := aaM ((by rw [hg]; exact (lZ (by repeat (first | (with_reducible first | exact HB.out | apply lA | apply lN | apply lD) | exact HB.out))) : w.heap.size ≤ gb253)); have n3_ := aaM ((by rw [hg]; exact (lZ (by repeat (first | (with_reducible first | exact HB.out | apply lA | apply lN | apply lD) | exact HB.out))) : w.heap.size ≤ gb253)); clear HB; have HB := n0_; have BK253 := n1_; have GW253 := n2_; have GE253 := n3_; clear n0_ n1_ n2_ n3_; clear hb hbox hg) | ((with_reducible refine gate_dst (N := 3) rfl ?_); (try (refine gate_guard (by rfl) ?_; dsimp only)); refine box_event ?hg (N := 3) ?hd (cs := #[.int .i64 a1_0, .int .i64 a1_1, .int .i64 a1_2, .slice A1_3 l1_3.length c1_3, .slice A1_4 l1_4.length c1_4, .bool a1_5]) (t := 42) ?hr ?_; (case hd => rfl); (case hg => rfl); (case hr => first | (go_simp; done) | (go_simp; rfl)); intro gb254 hg w5 hbox hb; have n0_ := aaM (bB (g := gb253) (o := .cells #[.int .i64 a0_0, .int .i64 a0_1, .int .i64 a0_2, .slice A0_3 l0_3.length c0_3, .slice A0_4 l0_4.length c0_4, .bool a0_5] 42 (0, 0)) (by (with_reducible repeat (first | refine bN ?_ _ | refine bD ?_ | refine bA ?_ _)); exact BK253.out) hb); have n1_ := aaM (lP (by repeat (first | (with_reducible first | exact HB.out | apply lA | apply lN | apply lD | refine lS ?_ GE253.out) | exact HB.out)) hb); have n2_ := aaM (hbox); have n3_ := aaM ((by rw [hg]; exact (lZ (by repeat (first | (with_reducible first | exact HB.out | apply lA | apply lN | apply lD | refine lS ?_ GE253.out) | exact HB.out))) : w.heap.size ≤ gb254)); have n4_ := aaM ((by rw [hg]; exact (lZ (by repeat (first | (with_reducible first | exact HB.out | apply lA | apply lN | apply lD | refine lS ?_ GE253.out) | exact HB.out))) : w.heap.size ≤ gb254)); have n5_ := aaM ((by rw [hg]; exact Nat.ne_of_lt (bL (g := gb253) (by (with_reducible repeat (first | refine bN ?_ _ | refine bD ?_ | refine bA ?_ _)); exact BK253.out)) : gb253 ≠ gb254)); have n6_ := aaM ((by rw [hg]; exact Nat.ne_of_gt (bL (g := gb253) (by (with_reducible repeat (first | refine bN ?_ _ | refine bD ?_ | refine bA ?_ _)); exact BK253.out)) : gb254 ≠ gb253)); clear BK253; clear HB; have BK253 := n0_; have HB := n1_; have BK254 := n2_; have GW254 := n3_; have GE254 := n4_; have NB253_254 := n5_; have NB254_253 := n6_; clear n0_ n1_ n2_ n3_ n4_ n5_ n6_; clear hb hbox hg)); go_upto_region 1 with (first | ((with_reducible refine gate_dst (N := 2) rfl ?_); (try (refine gate_guard (by rfl) ?_; dsimp only)); refine box_event ?hg (N := 2) ?hd (cs := #[.int .i64 a0_0, .int .i64 a0_1, .int .i64 a0_2, .slice A0_3 l0_3.length c0_3, .slice A0_4 l0_4.length c0_4, .bool a0_5]) (t := 42) ?hr ?_; (case hd => rfl); (case hg => rfl); (case hr => first | (go_simp; done) | (go_simp; rfl)); intro gb253 hg w4 hbox hb; have n0_ := aaM (lP (by repeat (first | (with_reducible first | exact HB.out | apply lA | apply lN | apply lD) | exact HB.out)) hb); have n1_ := aaM (hbox); have n2_ := aaM ((by rw [hg]; exact (lZ (by repeat (first | (with_reducible first | exact HB.out | apply lA | apply lN | apply lD) | exact HB.out))) : w.heap.size ≤ gb253)); have n3_ := aaM ((by rw [hg]; exact (lZ (by repeat (first | (with_reducible first | exact HB.out | apply lA | apply lN | apply lD) | exact HB.out))) : w.heap.size ≤ gb253)); clear HB; have HB := n0_; have BK253 := n1_; have GW253 := n2_; have GE253 := n3_; clear n0_ n1_ n2_ n3_; clear hb hbox hg) | ((with_reducible refine gate_dst (N := 3) rfl ?_); (try (refine gate_guard (by rfl) ?_; dsimp only)); refine box_event ?hg (N := 3) ?hd (cs := #[.int .i64 a1_0, .int .i64 a1_1, .int .i64 a1_2, .slice A1_3 l1_3.length c1_3, .slice A1_4 l1_4.length c1_4, .bool a1_5]) (t := 42) ?hr ?_; (case hd => rfl); (case hg => rfl); (case hr => first | (go_simp; done) | (go_simp; rfl)); intro gb254 hg w5 hbox hb; have n0_ := aaM (bB (g := gb253) (o := .cells #[.int .i64 a0_0, .int .i64 a0_1, .int .i64 a0_2, .slice A0_3 l0_3.length c0_3, .slice A0_4 l0_4.length c0_4, .bool a0_5] 42 (0, 0)) (by (with_reducible repeat (first | refine bN ?_ _ | refine bD ?_ | refine bA ?_ _)); exact BK253.out) hb); have n1_ := aaM (lP (by repeat (first | (with_reducible first | exact HB.out | apply lA | apply lN | apply lD | refine lS ?_ GE253.out) | exact HB.out)) hb); have n2_ := aaM (hbox); have n3_ := aaM ((by rw [hg]; exact (lZ (by repeat (first | (with_reducible first | exact HB.out | apply lA | apply lN | apply lD | refine lS ?_ GE253.out) | exact HB.out))) : w.heap.size ≤ gb254)); have n4_ := aaM ((by rw [hg]; exact (lZ (by repeat (first | (with_reducible first | exact HB.out | apply lA | apply lN | apply lD | refine lS ?_ GE253.out) | exact HB.out))) : w.heap.size ≤ gb254)); have n5_ := aaM ((by rw [hg]; exact Nat.ne_of_lt (bL (g := gb253) (by (with_reducible repeat (first | refine bN ?_ _ | refine bD ?_ | refine bA ?_ _)); exact BK253.out)) : gb253 ≠ gb254)); have n6_ := aaM ((by rw [hg]; exact Nat.ne_of_gt (bL (g := gb253) (by (with_reducible repeat (first | refine bN ?_ _ | refine bD ?_ | refine bA ?_ _)); exact BK253.out)) : gb254 ≠ gb253)); clear BK253; clear HB; have BK253 := n0_; have HB := n1_; have BK254 := n2_; have GW254 := n3_; have GE254 := n4_; have NB253_254 := n5_; have NB254_253 := n6_; clear n0_ n1_ n2_ n3_ n4_ n5_ n6_; clear hb hbox hg)))
 (try simp only [Act.put, ssB, ssZ, ssS])
 go_cut [50] (fun v50 wc => ∃ (kq : Nat) (x50_2 : Bool), v50 = .bool x50_2 ∧ Aside0 (hornbeamref21_Same.j0 kq x50_2 a0_0 a0_1 a0_2 l0_3 l0_4 a0_5 a1_0 a1_1 a1_2 l1_3 l1_4 a1_5 = some r) ∧ Aside0 (kq ≤ k) ∧ Aside0 (wc.heap[gb253]? = some (.cells #[.int .i64 a0_0, .int .i64 a0_1, .int .i64 a0_2, (.slice A0_3 l0_3.length c0_3), (.slice A0_4 l0_4.length c0_4), .bool a0_5] 42 (0, 0))) ∧ Aside0 (wc.heap[gb254]? = some (.cells #[.int .i64 a1_0, .int .i64 a1_1, .int .i64 a1_2, (.slice A1_3 l1_3.length c1_3), (.slice A1_4 l1_4.length c1_4), .bool a1_5] 42 (0, 0))) ∧ Aside0 (Below w.heap.size w wc))
 case first =>
  have H := HC3.out
  clear HC3
  by_cases c6 : a0_0 = a1_0
  ·rw [if_pos c6] at H
   have c6b0 : (a0_0 == a1_0) = true := beq_iff_eq.mpr c6
   have c6b1 : (a0_0 != a1_0) = false := bne_eq_false_iff_eq.mpr c6
   clear c6
   (first | rw [c6b0] | (simp only [i64_w, i32_w]; rw [c6b0]) | skip)
   by_cases c7 : a0_1 = a1_1
   ·rw [if_pos c7] at H
    have c7b0 : (a0_1 == a1_1) = true := beq_iff_eq.mpr c7
    have c7b1 : (a0_1 != a1_1) = false := bne_eq_false_iff_eq.mpr c7
    clear c7
    by_cases c8 : a0_2 = a1_2
    ·rw [if_pos c8] at H
     have c8b0 : (a0_2 == a1_2) = true := beq_iff_eq.mpr c8
     have c8b1 : (a0_2 != a1_2) = false := bne_eq_false_iff_eq.mpr c8
     clear c8
     by_cases c9 : (a0_5 != a1_5) = true
     ·rw [if_pos c9] at H
      have c9b0 : (a0_5 != a1_5) = true := c9
      (try (have c9b1 : decide (a0_5 = a1_5) = false := by simpa using c9))
      (try (have c9b2 : (a0_5 == a1_5) = false := by simpa using c9))
      (try (have c9b3 : ¬ (a0_5 = a1_5) := by simpa using c9))
      clear c9
      have H' := aaM H
      clear H
      have hnb10 := NB253_254.out
      have hnc10 := NB254_253.out
      have hcz11_0 : w5.cell? ⟨gb253, 0, none⟩ = some (.int .i64 a0_0) := (bC BK253.out 0).trans rfl
      have hcz11_1 : w5.cell? ⟨gb253, 1, none⟩ = some (.int .i64 a0_1) := (bC BK253.out 1).trans rfl
      have hcz11_2 : w5.cell? ⟨gb253, 2, none⟩ = some (.int .i64 a0_2) := (bC BK253.out 2).trans rfl
      have hcz11_3 : w5.cell? ⟨gb253, 3, none⟩ = some (.slice A0_3 l0_3.length c0_3) := (bC BK253.out 3).trans rfl
      have hcz11_4 : w5.cell? ⟨gb253, 4, none⟩ = some (.slice A0_4 l0_4.length c0_4) := (bC BK253.out 4).trans rfl
      have hcz11_5 : w5.cell? ⟨gb253, 5, none⟩ = some (.bool a0_5) := (bC BK253.out 5).trans rfl
      have hfz11_0 := bF BK253.out 0
      have hfz11_1 := bF BK253.out 1
      have hfz11_2 := bF BK253.out 2
      have hfz11_3 := bF BK253.out 3
      have hfz11_4 := bF BK253.out 4
      have hfz11_5 := bF BK253.out 5
      have hcz12_0 : w5.cell? ⟨gb254, 0, none⟩ = some (.int .i64 a1_0) := (bC BK254.out 0).trans rfl
      have hcz12_1 : w5.cell? ⟨gb254, 1, none⟩ = some (.int .i64 a1_1) := (bC BK254.out 1).trans rfl
      have hcz12_2 : w5.cell? ⟨gb254, 2, none⟩ = some (.int .i64 a1_2) := (bC BK254.out 2).trans rfl
      have hcz12_3 : w5.cell? ⟨gb254, 3, none⟩ = some (.slice A1_3 l1_3.length c1_3) := (bC BK254.out 3).trans rfl
      have hcz12_4 : w5.cell? ⟨gb254, 4, none⟩ = some (.slice A1_4 l1_4.length c1_4) := (bC BK254.out 4).trans rfl
      have hcz12_5 : w5.cell? ⟨gb254, 5, none⟩ = some (.bool a1_5) := (bC BK254.out 5).trans rfl
      have hfz12_0 := bF BK254.out 0
      have hfz12_1 := bF BK254.out 1
      have hfz12_2 := bF BK254.out 2
      have hfz12_3 := bF BK254.out 3
      have hfz12_4 := bF BK254.out 4
      have hfz12_5 := bF BK254.out 5
      go_wp2
      repeat (go_quiet (fail); try go_wp2)
      go_meet
      case rel => exact ⟨_, (true), (by first | rfl | (simp; done) | (simp [*]; done)), H', ⟨by first | omega | exact Nat.le_refl _⟩, ⟨by (with_reducible repeat (first | refine bN ?_ _ | refine bD ?_ | refine bA ?_ _)); exact BK253.out⟩, ⟨by (with_reducible repeat (first | refine bN ?_ _ | refine bD ?_ | refine bA ?_ _)); exact BK254.out⟩, ⟨by repeat (first | (with_reducible first | exact HB.out | apply lA | apply lN | apply lD | refine lS ?_ GE253.out | refine lS ?_ GE254.out) | exact HB.out)⟩⟩
     ·rw [if_neg c9] at H
      have c9b0 : (a0_5 != a1_5) = false := by simpa using c9
      (try (have c9b1 : decide (a0_5 = a1_5) = true := by simpa using c9))
      (try (have c9b2 : (a0_5 == a1_5) = true := by simpa using c9))
      clear c9
      by_cases c13 : (l0_3.length : Int) = (l1_3.length : Int)
      ·rw [if_pos c13] at H
       have c13b0 : ((l0_3.length : Int) == (l1_3.length : Int)) = true := beq_iff_eq.mpr c13
       have c13b1 : ((l0_3.length : Int) != (l1_3.length : Int)) = false := bne_eq_false_iff_eq.mpr c13
       have c13b2 : (l0_3.length == l1_3.length) = true := by first | simpa using c13 | (simp at c13 ⊢; omega)
       clear c13
       have H' := aaM H
       clear H
       have hnb14 := NB253_254.out
       have hnc14 := NB254_253.out
       have hcz15_0 : w5.cell? ⟨gb253, 0, none⟩ = some (.int .i64 a0_0) := (bC BK253.out 0).trans rfl
       have hcz15_1 : w5.cell? ⟨gb253, 1, none⟩ = some (.int .i64 a0_1) := (bC BK253.out 1).trans rfl
       have hcz15_2 : w5.cell? ⟨gb253, 2, none⟩ = some (.int .i64 a0_2) := (bC BK253.out 2).trans rfl
       have hcz15_3 : w5.cell? ⟨gb253, 3, none⟩ = some (.slice A0_3 l0_3.length c0_3) := (bC BK253.out 3).trans rfl
       have hcz15_4 : w5.cell? ⟨gb253, 4, none⟩ = some (.slice A0_4 l0_4.length c0_4) := (bC BK253.out 4).trans rfl
       have hcz15_5 : w5.cell? ⟨gb253, 5, none⟩ = some (.bool a0_5) := (bC BK253.out 5).trans rfl
       have hfz15_0 := bF BK253.out 0
       have hfz15_1 := bF BK253.out 1
       have hfz15_2 := bF BK253.out 2
       have hfz15_3 := bF BK253.out 3
       have hfz15_4 := bF BK253.out 4
       have hfz15_5 := bF BK253.out 5
       have hcz16_0 : w5.cell? ⟨gb254, 0, none⟩ = some (.int .i64 a1_0) := (bC BK254.out 0).trans rfl
       have hcz16_1 : w5.cell? ⟨gb254, 1, none⟩ = some (.int .i64 a1_1) := (bC BK254.out 1).trans rfl
       have hcz16_2 : w5.cell? ⟨gb254, 2, none⟩ = some (.int .i64 a1_2) := (bC BK254.out 2).trans rfl
       have hcz16_3 : w5.cell? ⟨gb254, 3, none⟩ = some (.slice A1_3 l1_3.length c1_3) := (bC BK254.out 3).trans rfl
       have hcz16_4 : w5.cell? ⟨gb254, 4, none⟩ = some (.slice A1_4 l1_4.length c1_4) := (bC BK254.out 4).trans rfl
       have hcz16_5 : w5.cell? ⟨gb254, 5, none⟩ = some (.bool a1_5) := (bC BK254.out 5).trans rfl
       have hfz16_0 := bF BK254.out 0
       have hfz16_1 := bF BK254.out 1
       have hfz16_2 := bF BK254.out 2
       have hfz16_3 := bF BK254.out 3
       have hfz16_4 := bF BK254.out 4
       have hfz16_5 := bF BK254.out 5
       go_wp2
       repeat (go_quiet (fail); try go_wp2)
       go_meet
       case rel => exact ⟨_, (((l0_4.length : Int) != (l1_4.length : Int))), (by first | rfl | (simp; done) | (simp [*]; done)), H', ⟨by first | omega | exact Nat.le_refl _⟩, ⟨by (with_reducible repeat (first | refine bN ?_ _ | refine bD ?_ | refine bA ?_ _)); exact BK253.out⟩, ⟨by (with_reducible repeat (first | refine bN ?_ _ | refine bD ?_ | refine bA ?_ _)); exact BK254.out⟩, ⟨by repeat (first | (with_reducible first | exact HB.out | apply lA | apply lN | apply lD | refine lS ?_ GE253.out | refine lS ?_ GE254.out) | exact HB.out)⟩⟩
      ·rw [if_neg c13] at H
       have c13b0 : ((l0_3.length : Int) == (l1_3.length : Int)) = false := beq_eq_false_iff_ne.mpr c13
       have c13b1 : ((l0_3.length : Int) != (l1_3.length : Int)) = true := bne_iff_ne.mpr c13
       have c13b2 : (l0_3.length == l1_3.length) = false := by first | simpa using c13 | (simp at c13 ⊢; omega)
       have H' := aaM H
       clear H
       have hnb17 := NB253_254.out
       have hnc17 := NB254_253.out
       have hcz18_0 : w5.cell? ⟨gb253, 0, none⟩ = some (.int .i64 a0_0) := (bC BK253.out 0).trans rfl
       have hcz18_1 : w5.cell? ⟨gb253, 1, none⟩ = some (.int .i64 a0_1) := (bC BK253.out 1).trans rfl
       have hcz18_2 : w5.cell? ⟨gb253, 2, none⟩ = some (.int .i64 a0_2) := (bC BK253.out 2).trans rfl
       have hcz18_3 : w5.cell? ⟨gb253, 3, none⟩ = some (.slice A0_3 l0_3.length c0_3) := (bC BK253.out 3).trans rfl
       have hcz18_4 : w5.cell? ⟨gb253, 4, none⟩ = some (.slice A0_4 l0_4.length c0_4) := (bC BK253.out 4).trans rfl
       have hcz18_5 : w5.cell? ⟨gb253, 5, none⟩ = some (.bool a0_5) := (bC BK253.out 5).trans rfl
       have hfz18_0 := bF BK253.out 0
       have hfz18_1 := bF BK253.out 1
       have hfz18_2 := bF BK253.out 2
       have hfz18_3 := bF BK253.out 3
       have hfz18_4 := bF BK253.out 4
       have hfz18_5 := bF BK253.out 5
       have hcz19_0 : w5.cell? ⟨gb254, 0, none⟩ = some (.int .i64 a1_0) := (bC BK254.out 0).trans rfl
       have hcz19_1 : w5.cell? ⟨gb254, 1, none⟩ = some (.int .i64 a1_1) := (bC BK254.out 1).trans rfl
       have hcz19_2 : w5.cell? ⟨gb254, 2, none⟩ = some (.int .i64 a1_2) := (bC BK254.out 2).trans rfl
       have hcz19_3 : w5.cell? ⟨gb254, 3, none⟩ = some (.slice A1_3 l1_3.length c1_3) := (bC BK254.out 3).trans rfl
       have hcz19_4 : w5.cell? ⟨gb254, 4, none⟩ = some (.slice A1_4 l1_4.length c1_4) := (bC BK254.out 4).trans rfl
       have hcz19_5 : w5.cell? ⟨gb254, 5, none⟩ = some (.bool a1_5) := (bC BK254.out 5).trans rfl
       have hfz19_0 := bF BK254.out 0
       have hfz19_1 := bF BK254.out 1
       have hfz19_2 := bF BK254.out 2
       have hfz19_3 := bF BK254.out 3
       have hfz19_4 := bF BK254.out 4
       have hfz19_5 := bF BK254.out 5
       go_wp2
       repeat (go_quiet (fail); try go_wp2)
       go_meet
       case rel => exact ⟨_, (true), (by first | rfl | (simp; done) | (simp [*]; done)), H', ⟨by first | omega | exact Nat.le_refl _⟩, ⟨by (with_reducible repeat (first | refine bN ?_ _ | refine bD ?_ | refine bA ?_ _)); exact BK253.out⟩, ⟨by (with_reducible repeat (first | refine bN ?_ _ | refine bD ?_ | refine bA ?_ _)); exact BK254.out⟩, ⟨by repeat (first | (with_reducible first | exact HB.out | apply lA | apply lN | apply lD | refine lS ?_ GE253.out | refine lS ?_ GE254.out) | exact HB.out)⟩⟩
    ·rw [if_neg c8] at H
     have c8b0 : (a0_2 == a1_2) = false := beq_eq_false_iff_ne.mpr c8
     have c8b1 : (a0_2 != a1_2) = true := bne_iff_ne.mpr c8
     have H' := aaM H
     clear H
     have hnb20 := NB253_254.out
     have hnc20 := NB254_253.out
     have hcz21_0 : w5.cell? ⟨gb253, 0, none⟩ = some (.int .i64 a0_0) := (bC BK253.out 0).trans rfl
     have hcz21_1 : w5.cell? ⟨gb253, 1, none⟩ = some (.int .i64 a0_1) := (bC BK253.out 1).trans rfl
     have hcz21_2 : w5.cell? ⟨gb253, 2, none⟩ = some (.int .i64 a0_2) := (bC BK253.out 2).trans rfl
     have hcz21_3 : w5.cell? ⟨gb253, 3, none⟩ = some (.slice A0_3 l0_3.length c0_3) := (bC BK253.out 3).trans rfl
     have hcz21_4 : w5.cell? ⟨gb253, 4, none⟩ = some (.slice A0_4 l0_4.length c0_4) := (bC BK253.out 4).trans rfl
     have hcz21_5 : w5.cell? ⟨gb253, 5, none⟩ = some (.bool a0_5) := (bC BK253.out 5).trans rfl
     have hfz21_0 := bF BK253.out 0
     have hfz21_1 := bF BK253.out 1
     have hfz21_2 := bF BK253.out 2
     have hfz21_3 := bF BK253.out 3
     have hfz21_4 := bF BK253.out 4
     have hfz21_5 := bF BK253.out 5
     have hcz22_0 : w5.cell? ⟨gb254, 0, none⟩ = some (.int .i64 a1_0) := (bC BK254.out 0).trans rfl
     have hcz22_1 : w5.cell? ⟨gb254, 1, none⟩ = some (.int .i64 a1_1) := (bC BK254.out 1).trans rfl
     have hcz22_2 : w5.cell? ⟨gb254, 2, none⟩ = some (.int .i64 a1_2) := (bC BK254.out 2).trans rfl
     have hcz22_3 : w5.cell? ⟨gb254, 3, none⟩ = some (.slice A1_3 l1_3.length c1_3) := (bC BK254.out 3).trans rfl
     have hcz22_4 : w5.cell? ⟨gb254, 4, none⟩ = some (.slice A1_4 l1_4.length c1_4) := (bC BK254.out 4).trans rfl
     have hcz22_5 : w5.cell? ⟨gb254, 5, none⟩ = some (.bool a1_5) := (bC BK254.out 5).trans rfl
     have hfz22_0 := bF BK254.out 0
     have hfz22_1 := bF BK254.out 1
     have hfz22_2 := bF BK254.out 2
     have hfz22_3 := bF BK254.out 3
     have hfz22_4 := bF BK254.out 4
     have hfz22_5 := bF BK254.out 5
     go_wp2
     repeat (go_quiet (fail); try go_wp2)
     go_meet
     case rel => exact ⟨_, (true), (by first | rfl | (simp; done) | (simp [*]; done)), H', ⟨by first | omega | exact Nat.le_refl _⟩, ⟨by (with_reducible repeat (first | refine bN ?_ _ | refine bD ?_ | refine bA ?_ _)); exact BK253.out⟩, ⟨by (with_reducible repeat (first | refine bN ?_ _ | refine bD ?_ | refine bA ?_ _)); exact BK254.out⟩, ⟨by repeat (first | (with_reducible first | exact HB.out | apply lA | apply lN | apply lD | refine lS ?_ GE253.out | refine lS ?_ GE254.out) | exact HB.out)⟩⟩
   ·rw [if_neg c7] at H
    have c7b0 : (a0_1 == a1_1) = false := beq_eq_false_iff_ne.mpr c7
    have c7b1 : (a0_1 != a1_1) = true := bne_iff_ne.mpr c7
    have H' := aaM H
    clear H
    have hnb23 := NB253_254.out
    have hnc23 := NB254_253.out
    have hcz24_0 : w5.cell? ⟨gb253, 0, none⟩ = some (.int .i64 a0_0) := (bC BK253.out 0).trans rfl
    have hcz24_1 : w5.cell? ⟨gb253, 1, none⟩ = some (.int .i64 a0_1) := (bC BK253.out 1).trans rfl
    have hcz24_2 : w5.cell? ⟨gb253, 2, none⟩ = some (.int .i64 a0_2) := (bC BK253.out 2).trans rfl
    have hcz24_3 : w5.cell? ⟨gb253, 3, none⟩ = some (.slice A0_3 l0_3.length c0_3) := (bC BK253.out 3).trans rfl
    have hcz24_4 : w5.cell? ⟨gb253, 4, none⟩ = some (.slice A0_4 l0_4.length c0_4) := (bC BK253.out 4).trans rfl
    have hcz24_5 : w5.cell? ⟨gb253, 5, none⟩ = some (.bool a0_5) := (bC BK253.out 5).trans rfl
    have hfz24_0 := bF BK253.out 0
    have hfz24_1 := bF BK253.out 1
    have hfz24_2 := bF BK253.out 2
    have hfz24_3 := bF BK253.out 3
    have hfz24_4 := bF BK253.out 4
    have hfz24_5 := bF BK253.out 5
    have hcz25_0 : w5.cell? ⟨gb254, 0, none⟩ = some (.int .i64 a1_0) := (bC BK254.out 0).trans rfl
    have hcz25_1 : w5.cell? ⟨gb254, 1, none⟩ = some (.int .i64 a1_1) := (bC BK254.out 1).trans rfl
    have hcz25_2 : w5.cell? ⟨gb254, 2, none⟩ = some (.int .i64 a1_2) := (bC BK254.out 2).trans rfl
    have hcz25_3 : w5.cell? ⟨gb254, 3, none⟩ = some (.slice A1_3 l1_3.length c1_3) := (bC BK254.out 3).trans rfl
    have hcz25_4 : w5.cell? ⟨gb254, 4, none⟩ = some (.slice A1_4 l1_4.length c1_4) := (bC BK254.out 4).trans rfl
    have hcz25_5 : w5.cell? ⟨gb254, 5, none⟩ = some (.bool a1_5) := (bC BK254.out 5).trans rfl
    have hfz25_0 := bF BK254.out 0
    have hfz25_1 := bF BK254.out 1
    have hfz25_2 := bF BK254.out 2
    have hfz25_3 := bF BK254.out 3
    have hfz25_4 := bF BK254.out 4
    have hfz25_5 := bF BK254.out 5
    go_wp2
    repeat (go_quiet (fail); try go_wp2)
    go_meet
    case rel => exact ⟨_, (true), (by first | rfl | (simp; done) | (simp [*]; done)), H', ⟨by first | omega | exact Nat.le_refl _⟩, ⟨by (with_reducible repeat (first | refine bN ?_ _ | refine bD ?_ | refine bA ?_ _)); exact BK253.out⟩, ⟨by (with_reducible repeat (first | refine bN ?_ _ | refine bD ?_ | refine bA ?_ _)); exact BK254.out⟩, ⟨by repeat (first | (with_reducible first | exact HB.out | apply lA | apply lN | apply lD | refine lS ?_ GE253.out | refine lS ?_ GE254.out) | exact HB.out)⟩⟩
  ·rw [if_neg c6] at H
   have c6b0 : (a0_0 == a1_0) = false := beq_eq_false_iff_ne.mpr c6
   have c6b1 : (a0_0 != a1_0) = true := bne_iff_ne.mpr c6
   (first | rw [c6b0] | (simp only [i64_w, i32_w]; rw [c6b0]) | skip)
   have H' := aaM H
   clear H
   have hnb26 := NB253_254.out
   have hnc26 := NB254_253.out
   have hcz27_0 : w5.cell? ⟨gb253, 0, none⟩ = some (.int .i64 a0_0) := (bC BK253.out 0).trans rfl
   have hcz27_1 : w5.cell? ⟨gb253, 1, none⟩ = some (.int .i64 a0_1) := (bC BK253.out 1).trans rfl
   have hcz27_2 : w5.cell? ⟨gb253, 2, none⟩ = some (.int .i64 a0_2) := (bC BK253.out 2).trans rfl
   have hcz27_3 : w5.cell? ⟨gb253, 3, none⟩ = some (.slice A0_3 l0_3.length c0_3) := (bC BK253.out 3).trans rfl
   have hcz27_4 : w5.cell? ⟨gb253, 4, none⟩ = some (.slice A0_4 l0_4.length c0_4) := (bC BK253.out 4).trans rfl
   have hcz27_5 : w5.cell? ⟨gb253, 5, none⟩ = some (.bool a0_5) := (bC BK253.out 5).trans rfl
   have hfz27_0 := bF BK253.out 0
   have hfz27_1 := bF BK253.out 1
   have hfz27_2 := bF BK253.out 2
   have hfz27_3 := bF BK253.out 3
   have hfz27_4 := bF BK253.out 4
   have hfz27_5 := bF BK253.out 5
   have hcz28_0 : w5.cell? ⟨gb254, 0, none⟩ = some (.int .i64 a1_0) := (bC BK254.out 0).trans rfl
   have hcz28_1 : w5.cell? ⟨gb254, 1, none⟩ = some (.int .i64 a1_1) := (bC BK254.out 1).trans rfl
   have hcz28_2 : w5.cell? ⟨gb254, 2, none⟩ = some (.int .i64 a1_2) := (bC BK254.out 2).trans rfl
   have hcz28_3 : w5.cell? ⟨gb254, 3, none⟩ = some (.slice A1_3 l1_3.length c1_3) := (bC BK254.out 3).trans rfl
   have hcz28_4 : w5.cell? ⟨gb254, 4, none⟩ = some (.slice A1_4 l1_4.length c1_4) := (bC BK254.out 4).trans rfl
   have hcz28_5 : w5.cell? ⟨gb254, 5, none⟩ = some (.bool a1_5) := (bC BK254.out 5).trans rfl
   have hfz28_0 := bF BK254.out 0
   have hfz28_1 := bF BK254.out 1
   have hfz28_2 := bF BK254.out 2
   have hfz28_3 := bF BK254.out 3
   have hfz28_4 := bF BK254.out 4
   have hfz28_5 := bF BK254.out 5
   go_wp2
   repeat (go_quiet (fail); try go_wp2)
   go_meet
   case rel => exact ⟨_, (true), (by first | rfl | (simp; done) | (simp [*]; done)), H', ⟨by first | omega | exact Nat.le_refl _⟩, ⟨by (with_reducible repeat (first | refine bN ?_ _ | refine bD ?_ | refine bA ?_ _)); exact BK253.out⟩, ⟨by (with_reducible repeat (first | refine bN ?_ _ | refine bD ?_ | refine bA ?_ _)); exact BK254.out⟩, ⟨by repeat (first | (with_reducible first | exact HB.out | apply lA | apply lN | apply lD | refine lS ?_ GE253.out | refine lS ?_ GE254.out) | exact HB.out)⟩⟩
 case rest =>
  clear HC3
  try clear c1
  try clear c2
  try clear p2
  try clear c6
  try clear c6b0
  try clear c6b1
  try clear c7
  try clear c7b0
  try clear c7b1
  try clear c8
  try clear c8b0
  try clear c8b1
  try clear c9
  try clear c9b0
  try clear c9b1
  try clear c9b2
  try clear c10
  try clear c13
  try clear c13b0
  try clear c13b1
  try clear c13b2
  try clear c14
  try clear c17
  try clear c20
  try clear c23
  try clear c25
  try clear c26
  try clear hcz11_0
  try clear hcz11_1
  try clear hcz11_2
  try clear hcz11_3
  try clear hcz11_4
  try clear hcz11_5
  try clear hcz12_0
  try clear hcz12_1
  try clear hcz12_2
  try clear hcz12_3
  try clear hcz12_4
  try clear hcz12_5
  try clear hcz15_0
  try clear hcz15_1
  try clear hcz15_2
  try clear hcz15_3
  try clear hcz15_4
  try clear hcz15_5
  try clear hcz16_0
  try clear hcz16_1
  try clear hcz16_2
  try clear hcz16_3
  try clear hcz16_4
  try clear hcz16_5
  try clear hcz18_0
  try clear hcz18_1
  try clear hcz18_2
  try clear hcz18_3
  try clear hcz18_4
  try clear hcz18_5
  try clear hcz19_0
  try clear hcz19_1
  try clear hcz19_2
  try clear hcz19_3
  try clear hcz19_4
  try clear hcz19_5
  try clear hcz21_0
  try clear hcz21_1
  try clear hcz21_2
  try clear hcz21_3
  try clear hcz21_4
  try clear hcz21_5
  try clear hcz22_0
  try clear hcz22_1
  try clear hcz22_2
  try clear hcz22_3
  try clear hcz22_4
  try clear hcz22_5
  try clear hcz24_0
  try clear hcz24_1
  try clear hcz24_2
  try clear hcz24_3
  try clear hcz24_4
  try clear hcz24_5
  try clear hcz25_0
  try clear hcz25_1
  try clear hcz25_2
  try clear hcz25_3
  try clear hcz25_4
  try clear hcz25_5
  try clear hcz27_0
  try clear hcz27_1
  try clear hcz27_2
  try clear hcz27_3
  try clear hcz27_4
  try clear hcz27_5
  try clear hcz28_0
  try clear hcz28_1
  try clear hcz28_2
  try clear hcz28_3
  try clear hcz28_4
  try clear hcz28_5
  try clear hfz11_0
  try clear hfz11_1
  try clear hfz11_2
  try clear hfz11_3
  try clear hfz11_4
  try clear hfz11_5
  try clear hfz12_0
  try clear hfz12_1
  try clear hfz12_2
  try clear hfz12_3
  try clear hfz12_4
  try clear hfz12_5
  try clear hfz15_0
  try clear hfz15_1
  try clear hfz15_2
  try clear hfz15_3
  try clear hfz15_4
  try clear hfz15_5
  try clear hfz16_0
  try clear hfz16_1
  try clear hfz16_2
  try clear hfz16_3
  try clear hfz16_4
  try clear hfz16_5
  try clear hfz18_0
  try clear hfz18_1
  try clear hfz18_2
  try clear hfz18_3
  try clear hfz18_4
  try clear hfz18_5
  try clear hfz19_0
  try clear hfz19_1
  try clear hfz19_2
  try clear hfz19_3
  try clear hfz19_4
  try clear hfz19_5
  try clear hfz21_0
  try clear hfz21_1
  try clear hfz21_2
  try clear hfz21_3
  try clear hfz21_4
  try clear hfz21_5
  try clear hfz22_0
  try clear hfz22_1
  try clear hfz22_2
  try clear hfz22_3
  try clear hfz22_4
  try clear hfz22_5
  try clear hfz24_0
  try clear hfz24_1
  try clear hfz24_2
  try clear hfz24_3
  try clear hfz24_4
  try clear hfz24_5
  try clear hfz25_0
  try clear hfz25_1
  try clear hfz25_2
  try clear hfz25_3
  try clear hfz25_4
  try clear hfz25_5
  try clear hfz27_0
  try clear hfz27_1
  try clear hfz27_2
  try clear hfz27_3
  try clear hfz27_4
  try clear hfz27_5
  try clear hfz28_0
  try clear hfz28_1
  try clear hfz28_2
  try clear hfz28_3
  try clear hfz28_4
  try clear hfz28_5
  obtain ⟨kq, x50_2, rfl, HA, HJ2, BK253, BK254, HB⟩ := hcut
  cases kq with
  | zero => exact absurd HA.out (by simp [hornbeamref21_Same.j0])
  | succ kj2 =>
   have H := HA.out
   clear HA
   simp only [hornbeamref21_Same.j0] at H
   by_cases c29 : x50_2 = true
   ·subst c29
    have H1 : (some false) = some r := by rw [if_pos rfl] at H; exact H
    clear H
    have H := H1
    clear H1
    obtain rfl := Option.some.inj H
    go_wp2
    repeat (go_quiet (fail); try go_wp2)
    all_goals (go_ret; exact ⟨by first | rfl | (simp [errW_none, errW_some] <;> rfl) | (simp [*, errW_none, errW_some] <;> rfl) | (simp_all; done), by repeat (first | (with_reducible first | exact HB.out | apply lA | apply lN | apply lD | refine lS ?_ GE253.out | refine lS ?_ GE254.out) | exact HB.out)⟩)
   ·replace c29 := Bool.eq_false_iff.mpr c29
    subst c29
    have H1 : (hornbeamref21_Same.l0 kj2 0 a0_0 a0_1 a0_2 l0_3 l0_4 a0_5 a1_0 a1_1 a1_2 l1_3 l1_4 a1_5) = some r := by rw [if_neg (show ¬ (false = true) by decide)] at H; exact H
    clear H
    have H := H1
    clear H1
    have H' := aaM H
    clear H
    go_wp2
    repeat (go_quiet (fail); try go_wp2)
    go_loopg [5] kj2 (fun kq v5 w' => ∃ (x5_2 : Int), v5 = .int .i64 x5_2 ∧ Aside0 (hornbeamref21_Same.l0 kq x5_2 a0_0 a0_1 a0_2 l0_3 l0_4 a0_5 a1_0 a1_1 a1_2 l1_3 l1_4 a1_5 = some r) ∧ Aside0 (kq ≤ kj2) ∧ Aside0 (w'.heap[gb253]? = some (.cells #[.int .i64 a0_0, .int .i64 a0_1, .int .i64 a0_2, (.slice A0_3 l0_3.length c0_3), (.slice A0_4 l0_4.length c0_4), .bool a0_5] 42 (0, 0))) ∧ Aside0 (w'.heap[gb254]? = some (.cells #[.int .i64 a1_0, .int .i64 a1_1, .int .i64 a1_2, (.slice A1_3 l1_3.length c1_3), (.slice A1_4 l1_4.length c1_4), .bool a1_5] 42 (0, 0))) ∧ Aside0 (Below w.heap.size w w'))
    case atStart => exact ⟨(0), (by first | rfl | (simp; done) | (simp [*]; done)), H', ⟨Nat.le_refl _⟩, ⟨by (with_reducible repeat (first | refine bN ?_ _ | refine bD ?_ | refine bA ?_ _)); exact BK253.out⟩, ⟨by (with_reducible repeat (first | refine bN ?_ _ | refine bD ?_ | refine bA ?_ _)); exact BK254.out⟩, ⟨by repeat (first | (with_reducible first | exact HB.out | apply lA | apply lN | apply lD | refine lS ?_ GE253.out | refine lS ?_ GE254.out) | exact HB.out)⟩⟩
    case round =>
     clear H'
     try clear c1
     try clear c2
     try clear p2
     try clear c6
     try clear c6b0
     try clear c6b1
     try clear c7
     try clear c7b0
     try clear c7b1
     try clear c8
     try clear c8b0
     try clear c8b1
     try clear c9
     try clear c9b0
     try clear c9b1
     try clear c9b2
     try clear c10
     try clear c13
     try clear c13b0
     try clear c13b1
     try clear c13b2
     try clear c14
     try clear c17
     try clear c20
     try clear c23
     try clear c25
     try clear c26
     try clear c29
     try clear hcz11_0
     try clear hcz11_1
     try clear hcz11_2
     try clear hcz11_3
     try clear hcz11_4
     try clear hcz11_5
     try clear hcz12_0
     try clear hcz12_1
     try clear hcz12_2
     try clear hcz12_3
     try clear hcz12_4
     try clear hcz12_5
     try clear hcz15_0
     try clear hcz15_1
     try clear hcz15_2
     try clear hcz15_3
     try clear hcz15_4
     try clear hcz15_5
     try clear hcz16_0
     try clear hcz16_1
     try clear hcz16_2
     try clear hcz16_3
     try clear hcz16_4
     try clear hcz16_5
     try clear hcz18_0
     try clear hcz18_1
     try clear hcz18_2
     try clear hcz18_3
     try clear hcz18_4
     try clear hcz18_5
     try clear hcz19_0
     try clear hcz19_1
     try clear hcz19_2
     try clear hcz19_3
     try clear hcz19_4
     try clear hcz19_5
     try clear hcz21_0
     try clear hcz21_1
     try clear hcz21_2
     try clear hcz21_3
     try clear hcz21_4
     try clear hcz21_5
     try clear hcz22_0
     try clear hcz22_1
     try clear hcz22_2
     try clear hcz22_3
     try clear hcz22_4
     try clear hcz22_5
     try clear hcz24_0
     try clear hcz24_1
     try clear hcz24_2
     try clear hcz24_3
     try clear hcz24_4
     try clear hcz24_5
     try clear hcz25_0
     try clear hcz25_1
     try clear hcz25_2
     try clear hcz25_3
     try clear hcz25_4
     try clear hcz25_5
     try clear hcz27_0
     try clear hcz27_1
     try clear hcz27_2
     try clear hcz27_3
     try clear hcz27_4
     try clear hcz27_5
     try clear hcz28_0
     try clear hcz28_1
     try clear hcz28_2
     try clear hcz28_3
     try clear hcz28_4
     try clear hcz28_5
     try clear hfz11_0
     try clear hfz11_1
     try clear hfz11_2
     try clear hfz11_3
     try clear hfz11_4
     try clear hfz11_5
     try clear hfz12_0
     try clear hfz12_1
     try clear hfz12_2
     try clear hfz12_3
     try clear hfz12_4
     try clear hfz12_5
     try clear hfz15_0
     try clear hfz15_1
     try clear hfz15_2
     try clear hfz15_3
     try clear hfz15_4
     try clear hfz15_5
     try clear hfz16_0
     try clear hfz16_1
     try clear hfz16_2
     try clear hfz16_3
     try clear hfz16_4
     try clear hfz16_5
     try clear hfz18_0
     try clear hfz18_1
     try clear hfz18_2
     try clear hfz18_3
     try clear hfz18_4
     try clear hfz18_5
     try clear hfz19_0
     try clear hfz19_1
     try clear hfz19_2
     try clear hfz19_3
     try clear hfz19_4
     try clear hfz19_5
     try clear hfz21_0
     try clear hfz21_1
     try clear hfz21_2
     try clear hfz21_3
     try clear hfz21_4
     try clear hfz21_5
     try clear hfz22_0
     try clear hfz22_1
     try clear hfz22_2
     try clear hfz22_3
     try clear hfz22_4
     try clear hfz22_5
     try clear hfz24_0
     try clear hfz24_1
     try clear hfz24_2
     try clear hfz24_3
     try clear hfz24_4
     try clear hfz24_5
     try clear hfz25_0
     try clear hfz25_1
     try clear hfz25_2
     try clear hfz25_3
     try clear hfz25_4
     try clear hfz25_5
     try clear hfz27_0
     try clear hfz27_1
     try clear hfz27_2
     try clear hfz27_3
     try clear hfz27_4
     try clear hfz27_5
     try clear hfz28_0
     try clear hfz28_1
     try clear hfz28_2
     try clear hfz28_3
     try clear hfz28_4
     try clear hfz28_5
     try clear p2
     obtain ⟨x5_2, rfl, HA, HK2, BK253, BK254, HB⟩ := hrel
     cases gk with
     | zero => exact absurd HA.out (by simp [hornbeamref21_Same.l0])
     | succ k2 =>
      have H := HA.out
      clear HA
      simp only [hornbeamref21_Same.l0] at H
      by_cases c30 : x5_2 < (l0_3.length : Int)
      ·rw [if_pos c30] at H
       have c30b0 : decide (x5_2 < (l0_3.length : Int)) = true := decide_eq_true c30
       clear c30
       by_cases c31 : 0 ≤ x5_2
       ·rw [if_pos c31] at H
        have c31b0 : decide (0 ≤ x5_2) = true := decide_eq_true c31
        clear c31
        by_cases c32 : x5_2 < (l1_3.length : Int)
        ·rw [if_pos c32] at H
         have c32b0 : decide (x5_2 < (l1_3.length : Int)) = true := decide_eq_true c32
         clear c32
         by_cases c33 : (rd l0_3 x5_2) = (rd l1_3 x5_2)
         ·rw [if_pos c33] at H
          have c33b0 : ((rd l0_3 x5_2) == (rd l1_3 x5_2)) = true := beq_iff_eq.mpr c33
          have c33b1 : ((rd l0_3 x5_2) != (rd l1_3 x5_2)) = false := bne_eq_false_iff_eq.mpr c33
          clear c33
          have H' := aaM H
          clear H
          have hnb34 := NB253_254.out
          have hnc34 := NB254_253.out
          have hcz35_0 : wr.cell? ⟨gb253, 0, none⟩ = some (.int .i64 a0_0) := (bC BK253.out 0).trans rfl
          have hcz35_1 : wr.cell? ⟨gb253, 1, none⟩ = some (.int .i64 a0_1) := (bC BK253.out 1).trans rfl
          have hcz35_2 : wr.cell? ⟨gb253, 2, none⟩ = some (.int .i64 a0_2) := (bC BK253.out 2).trans rfl
          have hcz35_3 : wr.cell? ⟨gb253, 3, none⟩ = some (.slice A0_3 l0_3.length c0_3) := (bC BK253.out 3).trans rfl
          have hcz35_4 : wr.cell? ⟨gb253, 4, none⟩ = some (.slice A0_4 l0_4.length c0_4) := (bC BK253.out 4).trans rfl
          have hcz35_5 : wr.cell? ⟨gb253, 5, none⟩ = some (.bool a0_5) := (bC BK253.out 5).trans rfl
          have hfz35_0 := bF BK253.out 0
          have hfz35_1 := bF BK253.out 1
          have hfz35_2 := bF BK253.out 2
          have hfz35_3 := bF BK253.out 3
          have hfz35_4 := bF BK253.out 4
          have hfz35_5 := bF BK253.out 5
          have p255 : 0 ≤ (x5_2 : Int) := of_decide_eq_true (by first | (with_reducible assumption) | assumption)
          have q255 : x5_2 < (l0_3.length : Int) := of_decide_eq_true (by first | (with_reducible assumption) | assumption)
          obtain ⟨ad255, e255, hx255_0⟩ := Kd.at_int HR0_3.out x5_2 p255 q255
          cases e255
          replace hx255_0 := (HB.out.cell (World.block_lt_of_cell? w _ hx255_0)).trans hx255_0
          replace p255 := eq_true p255
          replace q255 := eq_true q255
          have hcz36_0 : wr.cell? ⟨gb254, 0, none⟩ = some (.int .i64 a1_0) := (bC BK254.out 0).trans rfl
          have hcz36_1 : wr.cell? ⟨gb254, 1, none⟩ = some (.int .i64 a1_1) := (bC BK254.out 1).trans rfl
          have hcz36_2 : wr.cell? ⟨gb254, 2, none⟩ = some (.int .i64 a1_2) := (bC BK254.out 2).trans rfl
          have hcz36_3 : wr.cell? ⟨gb254, 3, none⟩ = some (.slice A1_3 l1_3.length c1_3) := (bC BK254.out 3).trans rfl
          have hcz36_4 : wr.cell? ⟨gb254, 4, none⟩ = some (.slice A1_4 l1_4.length c1_4) := (bC BK254.out 4).trans rfl
          have hcz36_5 : wr.cell? ⟨gb254, 5, none⟩ = some (.bool a1_5) := (bC BK254.out 5).trans rfl
          have hfz36_0 := bF BK254.out 0
          have hfz36_1 := bF BK254.out 1
          have hfz36_2 := bF BK254.out 2
          have hfz36_3 := bF BK254.out 3
          have hfz36_4 := bF BK254.out 4
          have hfz36_5 := bF BK254.out 5
          have p256 : 0 ≤ (x5_2 : Int) := of_decide_eq_true (by first | (with_reducible assumption) | assumption)
          have q256 : x5_2 < (l1_3.length : Int) := of_decide_eq_true (by first | (with_reducible assumption) | assumption)
          obtain ⟨ad256, e256, hx256_0⟩ := Kd.at_int HR1_3.out x5_2 p256 q256
          cases e256
          replace hx256_0 := (HB.out.cell (World.block_lt_of_cell? w _ hx256_0)).trans hx256_0
          replace p256 := eq_true p256
          replace q256 := eq_true q256
          go_wp2
          repeat (go_quiet (fail); try go_wp2)
          go_roundg k2
          case measure => have := HJ2.out; have := HK2.out; omega
          case rel => exact ⟨(wrap64 (x5_2 + 1)), (by first | rfl | (simp; done) | (simp [*]; done)), H', ⟨by have := HJ2.out; have := HK2.out; omega⟩, ⟨by (with_reducible repeat (first | refine bN ?_ _ | refine bD ?_ | refine bA ?_ _)); exact BK253.out⟩, ⟨by (with_reducible repeat (first | refine bN ?_ _ | refine bD ?_ | refine bA ?_ _)); exact BK254.out⟩, ⟨by repeat (first | (with_reducible first | exact HB.out | apply lA | apply lN | apply lD | refine lS ?_ GE253.out | refine lS ?_ GE254.out) | exact HB.out)⟩⟩
         ·rw [if_neg c33] at H
          have c33b0 : ((rd l0_3 x5_2) == (rd l1_3 x5_2)) = false := beq_eq_false_iff_ne.mpr c33
          have c33b1 : ((rd l0_3 x5_2) != (rd l1_3 x5_2)) = true := bne_iff_ne.mpr c33
          obtain rfl := Option.some.inj H
          have hnb37 := NB253_254.out
          have hnc37 := NB254_253.out
          have hcz38_0 : wr.cell? ⟨gb253, 0, none⟩ = some (.int .i64 a0_0) := (bC BK253.out 0).trans rfl
          have hcz38_1 : wr.cell? ⟨gb253, 1, none⟩ = some (.int .i64 a0_1) := (bC BK253.out 1).trans rfl
          have hcz38_2 : wr.cell? ⟨gb253, 2, none⟩ = some (.int .i64 a0_2) := (bC BK253.out 2).trans rfl
          have hcz38_3 : wr.cell? ⟨gb253, 3, none⟩ = some (.slice A0_3 l0_3.length c0_3) := (bC BK253.out 3).trans rfl
          have hcz38_4 : wr.cell? ⟨gb253, 4, none⟩ = some (.slice A0_4 l0_4.length c0_4) := (bC BK253.out 4).trans rfl
          have hcz38_5 : wr.cell? ⟨gb253, 5, none⟩ = some (.bool a0_5) := (bC BK253.out 5).trans rfl
          have hfz38_0 := bF BK253.out 0
          have hfz38_1 := bF BK253.out 1
          have hfz38_2 := bF BK253.out 2
          have hfz38_3 := bF BK253.out 3
          have hfz38_4 := bF BK253.out 4
          have hfz38_5 := bF BK253.out 5
          have p255 : 0 ≤ (x5_2 : Int) := of_decide_eq_true (by first | (with_reducible assumption) | assumption)
          have q255 : x5_2 < (l0_3.length : Int) := of_decide_eq_true (by first | (with_reducible assumption) | assumption)
          obtain ⟨ad255, e255, hx255_0⟩ := Kd.at_int HR0_3.out x5_2 p255 q255
          cases e255
          replace hx255_0 := (HB.out.cell (World.block_lt_of_cell? w _ hx255_0)).trans hx255_0
          replace p255 := eq_true p255
          replace q255 := eq_true q255
          have hcz39_0 : wr.cell? ⟨gb254, 0, none⟩ = some (.int .i64 a1_0) := (bC BK254.out 0).trans rfl
          have hcz39_1 : wr.cell? ⟨gb254, 1, none⟩ = some (.int .i64 a1_1) := (bC BK254.out 1).trans rfl
          have hcz39_2 : wr.cell? ⟨gb254, 2, none⟩ = some (.int .i64 a1_2) := (bC BK254.out 2).trans rfl
          have hcz39_3 : wr.cell? ⟨gb254, 3, none⟩ = some (.slice A1_3 l1_3.length c1_3) := (bC BK254.out 3).trans rfl
          have hcz39_4 : wr.cell? ⟨gb254, 4, none⟩ = some (.slice A1_4 l1_4.length c1_4) := (bC BK254.out 4).trans rfl
          have hcz39_5 : wr.cell? ⟨gb254, 5, none⟩ = some (.bool a1_5) := (bC BK254.out 5).trans rfl
          have hfz39_0 := bF BK254.out 0
          have hfz39_1 := bF BK254.out 1
          have hfz39_2 := bF BK254.out 2
          have hfz39_3 := bF BK254.out 3
          have hfz39_4 := bF BK254.out 4
          have hfz39_5 := bF BK254.out 5
          have p256 : 0 ≤ (x5_2 : Int) := of_decide_eq_true (by first | (with_reducible assumption) | assumption)
          have q256 : x5_2 < (l1_3.length : Int) := of_decide_eq_true (by first | (with_reducible assumption) | assumption)
          obtain ⟨ad256, e256, hx256_0⟩ := Kd.at_int HR1_3.out x5_2 p256 q256
          cases e256
          replace hx256_0 := (HB.out.cell (World.block_lt_of_cell? w _ hx256_0)).trans hx256_0
          replace p256 := eq_true p256
          replace q256 := eq_true q256
          go_wp2
          repeat (go_quiet (fail); try go_wp2)
          all_goals (go_ret; exact ⟨by first | rfl | (simp [errW_none, errW_some] <;> rfl) | (simp [*, errW_none, errW_some] <;> rfl) | (simp_all; done), by repeat (first | (with_reducible first | exact HB.out | apply lA | apply lN | apply lD | refine lS ?_ GE253.out | refine lS ?_ GE254.out) | exact HB.out)⟩)
        ·rw [if_neg c32] at H
         exact absurd H (by simp)
       ·rw [if_neg c31] at H
        exact absurd H (by simp)
      ·rw [if_neg c30] at H
       have c30b0 : decide (x5_2 < (l0_3.length : Int)) = false := decide_eq_false c30
       clear c30
       have H' := aaM H
       clear H
       have hnb40 := NB253_254.out
       have hnc40 := NB254_253.out
       have hcz41_0 : wr.cell? ⟨gb253, 0, none⟩ = some (.int .i64 a0_0) := (bC BK253.out 0).trans rfl
       have hcz41_1 : wr.cell? ⟨gb253, 1, none⟩ = some (.int .i64 a0_1) := (bC BK253.out 1).trans rfl
       have hcz41_2 : wr.cell? ⟨gb253, 2, none⟩ = some (.int .i64 a0_2) := (bC BK253.out 2).trans rfl
       have hcz41_3 : wr.cell? ⟨gb253, 3, none⟩ = some (.slice A0_3 l0_3.length c0_3) := (bC BK253.out 3).trans rfl
       have hcz41_4 : wr.cell? ⟨gb253, 4, none⟩ = some (.slice A0_4 l0_4.length c0_4) := (bC BK253.out 4).trans rfl
       have hcz41_5 : wr.cell? ⟨gb253, 5, none⟩ = some (.bool a0_5) := (bC BK253.out 5).trans rfl
       have hfz41_0 := bF BK253.out 0
       have hfz41_1 := bF BK253.out 1
       have hfz41_2 := bF BK253.out 2
       have hfz41_3 := bF BK253.out 3
       have hfz41_4 := bF BK253.out 4
       have hfz41_5 := bF BK253.out 5
       go_wp2
       repeat (go_quiet (fail); try go_wp2)
       go_loopg [6] k2 (fun kq v6 w' => ∃ (x6_3 : Int), v6 = .int .i64 x6_3 ∧ Aside0 (hornbeamref21_Same.l1 kq x6_3 a0_0 a0_1 a0_2 l0_3 l0_4 a0_5 a1_0 a1_1 a1_2 l1_3 l1_4 a1_5 = some r) ∧ Aside0 (kq ≤ k2) ∧ Aside0 (w'.heap[gb253]? = some (.cells #[.int .i64 a0_0, .int .i64 a0_1, .int .i64 a0_2, (.slice A0_3 l0_3.length c0_3), (.slice A0_4 l0_4.length c0_4), .bool a0_5] 42 (0, 0))) ∧ Aside0 (w'.heap[gb254]? = some (.cells #[.int .i64 a1_0, .int .i64 a1_1, .int .i64 a1_2, (.slice A1_3 l1_3.length c1_3), (.slice A1_4 l1_4.length c1_4), .bool a1_5] 42 (0, 0))) ∧ Aside0 (Below w.heap.size w w'))
       case atStart => exact ⟨(0), (by first | rfl | (simp; done) | (simp [*]; done)), H', ⟨Nat.le_refl _⟩, ⟨by (with_reducible repeat (first | refine bN ?_ _ | refine bD ?_ | refine bA ?_ _)); exact BK253.out⟩, ⟨by (with_reducible repeat (first | refine bN ?_ _ | refine bD ?_ | refine bA ?_ _)); exact BK254.out⟩, ⟨by repeat (first | (with_reducible first | exact HB.out | apply lA | apply lN | apply lD | refine lS ?_ GE253.out | refine lS ?_ GE254.out) | exact HB.out)⟩⟩
       case round =>
        clear H'
        try clear c1
        try clear c2
        try clear p2
        try clear q2
        try clear hx2
        try clear c3
        try clear c4
        try clear c6
        try clear c6b0
        try clear c6b1
        try clear p6
        try clear c7
        try clear c7b0
        try clear c7b1
        try clear c8
        try clear c8b0
        try clear c8b1
        try clear c9
        try clear c9b0
        try clear c9b1
        try clear c9b2
        try clear c10
        try clear c13
        try clear c13b0
        try clear c13b1
        try clear c13b2
        try clear c14
        try clear c17
        try clear c20
        try clear c23
        try clear c25
        try clear p25
        try clear q25
        try clear hx25
        try clear c26
        try clear c29
        try clear c30
        try clear c30b0
        try clear c31
        try clear c31b0
        try clear c32
        try clear c32b0
        try clear c33
        try clear c33b0
        try clear c33b1
        try clear c34
        try clear c37
        try clear c40
        try clear hcz11_0
        try clear hcz11_1
        try clear hcz11_2
        try clear hcz11_3
        try clear hcz11_4
        try clear hcz11_5
        try clear hcz12_0
        try clear hcz12_1
        try clear hcz12_2
        try clear hcz12_3
        try clear hcz12_4
        try clear hcz12_5
        try clear hcz15_0
        try clear hcz15_1
        try clear hcz15_2
        try clear hcz15_3
        try clear hcz15_4
        try clear hcz15_5
        try clear hcz16_0
        try clear hcz16_1
        try clear hcz16_2
        try clear hcz16_3
        try clear hcz16_4
        try clear hcz16_5
        try clear hcz18_0
        try clear hcz18_1
        try clear hcz18_2
        try clear hcz18_3
        try clear hcz18_4
        try clear hcz18_5
        try clear hcz19_0
        try clear hcz19_1
        try clear hcz19_2
        try clear hcz19_3
        try clear hcz19_4
        try clear hcz19_5
        try clear hcz21_0
        try clear hcz21_1
        try clear hcz21_2
        try clear hcz21_3
        try clear hcz21_4
        try clear hcz21_5
        try clear hcz22_0
        try clear hcz22_1
        try clear hcz22_2
        try clear hcz22_3
        try clear hcz22_4
        try clear hcz22_5
        try clear hcz24_0
        try clear hcz24_1
        try clear hcz24_2
        try clear hcz24_3
        try clear hcz24_4
        try clear hcz24_5
        try clear hcz25_0
        try clear hcz25_1
        try clear hcz25_2
        try clear hcz25_3
        try clear hcz25_4
        try clear hcz25_5
        try clear hcz27_0
        try clear hcz27_1
        try clear hcz27_2
        try clear hcz27_3
        try clear hcz27_4
        try clear hcz27_5
        try clear hcz28_0
        try clear hcz28_1
        try clear hcz28_2
        try clear hcz28_3
        try clear hcz28_4
        try clear hcz28_5
        try clear hcz35_0
        try clear hcz35_1
        try clear hcz35_2
        try clear hcz35_3
        try clear hcz35_4
        try clear hcz35_5
        try clear hcz36_0
        try clear hcz36_1
        try clear hcz36_2
        try clear hcz36_3
        try clear hcz36_4
        try clear hcz36_5
        try clear hcz38_0
        try clear hcz38_1
        try clear hcz38_2
        try clear hcz38_3
        try clear hcz38_4
        try clear hcz38_5
        try clear hcz39_0
        try clear hcz39_1
        try clear hcz39_2
        try clear hcz39_3
        try clear hcz39_4
        try clear hcz39_5
        try clear hcz41_0
        try clear hcz41_1
        try clear hcz41_2
        try clear hcz41_3
        try clear hcz41_4
        try clear hcz41_5
        try clear hfz11_0
        try clear hfz11_1
        try clear hfz11_2
        try clear hfz11_3
        try clear hfz11_4
        try clear hfz11_5
        try clear hfz12_0
        try clear hfz12_1
        try clear hfz12_2
        try clear hfz12_3
        try clear hfz12_4
        try clear hfz12_5
        try clear hfz15_0
        try clear hfz15_1
        try clear hfz15_2
        try clear hfz15_3
        try clear hfz15_4
        try clear hfz15_5
        try clear hfz16_0
        try clear hfz16_1
        try clear hfz16_2
        try clear hfz16_3
        try clear hfz16_4
        try clear hfz16_5
        try clear hfz18_0
        try clear hfz18_1
        try clear hfz18_2
        try clear hfz18_3
        try clear hfz18_4
        try clear hfz18_5
        try clear hfz19_0
        try clear hfz19_1
        try clear hfz19_2
        try clear hfz19_3
        try clear hfz19_4
        try clear hfz19_5
        try clear hfz21_0
        try clear hfz21_1
        try clear hfz21_2
        try clear hfz21_3
        try clear hfz21_4
        try clear hfz21_5
        try clear hfz22_0
        try clear hfz22_1
        try clear hfz22_2
        try clear hfz22_3
        try clear hfz22_4
        try clear hfz22_5
        try clear hfz24_0
        try clear hfz24_1
        try clear hfz24_2
        try clear hfz24_3
        try clear hfz24_4
        try clear hfz24_5
        try clear hfz25_0
        try clear hfz25_1
        try clear hfz25_2
        try clear hfz25_3
        try clear hfz25_4
        try clear hfz25_5
        try clear hfz27_0
        try clear hfz27_1
        try clear hfz27_2
        try clear hfz27_3
        try clear hfz27_4
        try clear hfz27_5
        try clear hfz28_0
        try clear hfz28_1
        try clear hfz28_2
        try clear hfz28_3
        try clear hfz28_4
        try clear hfz28_5
        try clear hfz35_0
        try clear hfz35_1
        try clear hfz35_2
        try clear hfz35_3
        try clear hfz35_4
        try clear hfz35_5
        try clear hfz36_0
        try clear hfz36_1
        try clear hfz36_2
        try clear hfz36_3
        try clear hfz36_4
        try clear hfz36_5
        try clear hfz38_0
        try clear hfz38_1
        try clear hfz38_2
        try clear hfz38_3
        try clear hfz38_4
        try clear hfz38_5
        try clear hfz39_0
        try clear hfz39_1
        try clear hfz39_2
        try clear hfz39_3
        try clear hfz39_4
        try clear hfz39_5
        try clear hfz41_0
        try clear hfz41_1
        try clear hfz41_2
        try clear hfz41_3
        try clear hfz41_4
        try clear hfz41_5
        try clear hx255_0
        try clear hx256_0
        try clear p2
        try clear p255
        try clear p256
        try clear q255
        try clear q256
        obtain ⟨x6_3, rfl, HA, HK3, BK253, BK254, HB⟩ := hrel
        cases gk with
        | zero => exact absurd HA.out (by simp [hornbeamref21_Same.l1])
        | succ k3 =>
         have H := HA.out
         clear HA
         simp only [hornbeamref21_Same.l1] at H
         by_cases c42 : x6_3 < (l0_4.length : Int)
         ·rw [if_pos c42] at H
          have c42b0 : decide (x6_3 < (l0_4.length : Int)) = true := decide_eq_true c42
          clear c42
          by_cases c43 : 0 ≤ x6_3
          ·rw [if_pos c43] at H
           have c43b0 : decide (0 ≤ x6_3) = true := decide_eq_true c43
           clear c43
           by_cases c44 : x6_3 < (l1_4.length : Int)
           ·rw [if_pos c44] at H
            have c44b0 : decide (x6_3 < (l1_4.length : Int)) = true := decide_eq_true c44
            clear c44
            by_cases c45 : ((rdOf false l0_4 x6_3) != (rdOf false l1_4 x6_3)) = true
            ·rw [if_pos c45] at H
             have c45b0 : ((rdOf false l0_4 x6_3) != (rdOf false l1_4 x6_3)) = true := c45
             (try (have c45b1 : decide ((rdOf false l0_4 x6_3) = (rdOf false l1_4 x6_3)) = false := by simpa using c45))
             (try (have c45b2 : ((rdOf false l0_4 x6_3) == (rdOf false l1_4 x6_3)) = false := by simpa using c45))
             (try (have c45b3 : ¬ ((rdOf false l0_4 x6_3) = (rdOf false l1_4 x6_3)) := by simpa using c45))
             clear c45
             obtain rfl := Option.some.inj H
             have hnb46 := NB253_254.out
             have hnc46 := NB254_253.out
             have hcz47_0 : wr.cell? ⟨gb253, 0, none⟩ = some (.int .i64 a0_0) := (bC BK253.out 0).trans rfl
             have hcz47_1 : wr.cell? ⟨gb253, 1, none⟩ = some (.int .i64 a0_1) := (bC BK253.out 1).trans rfl
             have hcz47_2 : wr.cell? ⟨gb253, 2, none⟩ = some (.int .i64 a0_2) := (bC BK253.out 2).trans rfl
             have hcz47_3 : wr.cell? ⟨gb253, 3, none⟩ = some (.slice A0_3 l0_3.length c0_3) := (bC BK253.out 3).trans rfl
             have hcz47_4 : wr.cell? ⟨gb253, 4, none⟩ = some (.slice A0_4 l0_4.length c0_4) := (bC BK253.out 4).trans rfl
             have hcz47_5 : wr.cell? ⟨gb253, 5, none⟩ = some (.bool a0_5) := (bC BK253.out 5).trans rfl
             have hfz47_0 := bF BK253.out 0
             have hfz47_1 := bF BK253.out 1
             have hfz47_2 := bF BK253.out 2
             have hfz47_3 := bF BK253.out 3
             have hfz47_4 := bF BK253.out 4
             have hfz47_5 := bF BK253.out 5
             have p257 : 0 ≤ (x6_3 : Int) := of_decide_eq_true (by first | (with_reducible assumption) | assumption)
             have q257 : x6_3 < (l0_4.length : Int) := of_decide_eq_true (by first | (with_reducible assumption) | assumption)
             obtain ⟨ad257, e257, hx257_0⟩ := Kd.at_bool HR0_4.out x6_3 p257 q257
             cases e257
             replace hx257_0 := (HB.out.cell (World.block_lt_of_cell? w _ hx257_0)).trans hx257_0
             replace p257 := eq_true p257
             replace q257 := eq_true q257
             have hcz48_0 : wr.cell? ⟨gb254, 0, none⟩ = some (.int .i64 a1_0) := (bC BK254.out 0).trans rfl
             have hcz48_1 : wr.cell? ⟨gb254, 1, none⟩ = some (.int .i64 a1_1) := (bC BK254.out 1).trans rfl
             have hcz48_2 : wr.cell? ⟨gb254, 2, none⟩ = some (.int .i64 a1_2) := (bC BK254.out 2).trans rfl
             have hcz48_3 : wr.cell? ⟨gb254, 3, none⟩ = some (.slice A1_3 l1_3.length c1_3) := (bC BK254.out 3).trans rfl
             have hcz48_4 : wr.cell? ⟨gb254, 4, none⟩ = some (.slice A1_4 l1_4.length c1_4) := (bC BK254.out 4).trans rfl
             have hcz48_5 : wr.cell? ⟨gb254, 5, none⟩ = some (.bool a1_5) := (bC BK254.out 5).trans rfl
             have hfz48_0 := bF BK254.out 0
             have hfz48_1 := bF BK254.out 1
             have hfz48_2 := bF BK254.out 2
             have hfz48_3 := bF BK254.out 3
             have hfz48_4 := bF BK254.out 4
             have hfz48_5 := bF BK254.out 5
             have p258 : 0 ≤ (x6_3 : Int) := of_decide_eq_true (by first | (with_reducible assumption) | assumption)
             have q258 : x6_3 < (l1_4.length : Int) := of_decide_eq_true (by first | (with_reducible assumption) | assumption)
             obtain ⟨ad258, e258, hx258_0⟩ := Kd.at_bool HR1_4.out x6_3 p258 q258
             cases e258
             replace hx258_0 := (HB.out.cell (World.block_lt_of_cell? w _ hx258_0)).trans hx258_0
             replace p258 := eq_true p258
             replace q258 := eq_true q258
             go_wp2
             repeat (go_quiet (fail); try go_wp2)
             all_goals (go_ret; exact ⟨by first | rfl | (simp [errW_none, errW_some] <;> rfl) | (simp [*, errW_none, errW_some] <;> rfl) | (simp_all; done), by repeat (first | (with_reducible first | exact HB.out | apply lA | apply lN | apply lD | refine lS ?_ GE253.out | refine lS ?_ GE254.out) | exact HB.out)⟩)
            ·rw [if_neg c45] at H
             have c45b0 : ((rdOf false l0_4 x6_3) != (rdOf false l1_4 x6_3)) = false := by simpa using c45
             (try (have c45b1 : decide ((rdOf false l0_4 x6_3) = (rdOf false l1_4 x6_3)) = true := by simpa using c45))
             (try (have c45b2 : ((rdOf false l0_4 x6_3) == (rdOf false l1_4 x6_3)) = true := by simpa using c45))
             clear c45
             have H' := aaM H
             clear H
             have hnb49 := NB253_254.out
             have hnc49 := NB254_253.out
             have hcz50_0 : wr.cell? ⟨gb253, 0, none⟩ = some (.int .i64 a0_0) := (bC BK253.out 0).trans rfl
             have hcz50_1 : wr.cell? ⟨gb253, 1, none⟩ = some (.int .i64 a0_1) := (bC BK253.out 1).trans rfl
             have hcz50_2 : wr.cell? ⟨gb253, 2, none⟩ = some (.int .i64 a0_2) := (bC BK253.out 2).trans rfl
             have hcz50_3 : wr.cell? ⟨gb253, 3, none⟩ = some (.slice A0_3 l0_3.length c0_3) := (bC BK253.out 3).trans rfl
             have hcz50_4 : wr.cell? ⟨gb253, 4, none⟩ = some (.slice A0_4 l0_4.length c0_4) := (bC BK253.out 4).trans rfl
             have hcz50_5 : wr.cell? ⟨gb253, 5, none⟩ = some (.bool a0_5) := (bC BK253.out 5).trans rfl
             have hfz50_0 := bF BK253.out 0
             have hfz50_1 := bF BK253.out 1
             have hfz50_2 := bF BK253.out 2
             have hfz50_3 := bF BK253.out 3
             have hfz50_4 := bF BK253.out 4
             have hfz50_5 := bF BK253.out 5
             have p257 : 0 ≤ (x6_3 : Int) := of_decide_eq_true (by first | (with_reducible assumption) | assumption)
             have q257 : x6_3 < (l0_4.length : Int) := of_decide_eq_true (by first | (with_reducible assumption) | assumption)
             obtain ⟨ad257, e257, hx257_0⟩ := Kd.at_bool HR0_4.out x6_3 p257 q257
             cases e257
             replace hx257_0 := (HB.out.cell (World.block_lt_of_cell? w _ hx257_0)).trans hx257_0
             replace p257 := eq_true p257
             replace q257 := eq_true q257
             have hcz51_0 : wr.cell? ⟨gb254, 0, none⟩ = some (.int .i64 a1_0) := (bC BK254.out 0).trans rfl
             have hcz51_1 : wr.cell? ⟨gb254, 1, none⟩ = some (.int .i64 a1_1) := (bC BK254.out 1).trans rfl
             have hcz51_2 : wr.cell? ⟨gb254, 2, none⟩ = some (.int .i64 a1_2) := (bC BK254.out 2).trans rfl
             have hcz51_3 : wr.cell? ⟨gb254, 3, none⟩ = some (.slice A1_3 l1_3.length c1_3) := (bC BK254.out 3).trans rfl
             have hcz51_4 : wr.cell? ⟨gb254, 4, none⟩ = some (.slice A1_4 l1_4.length c1_4) := (bC BK254.out 4).trans rfl
             have hcz51_5 : wr.cell? ⟨gb254, 5, none⟩ = some (.bool a1_5) := (bC BK254.out 5).trans rfl
             have hfz51_0 := bF BK254.out 0
             have hfz51_1 := bF BK254.out 1
             have hfz51_2 := bF BK254.out 2
             have hfz51_3 := bF BK254.out 3
             have hfz51_4 := bF BK254.out 4
             have hfz51_5 := bF BK254.out 5
             have p258 : 0 ≤ (x6_3 : Int) := of_decide_eq_true (by first | (with_reducible assumption) | assumption)
             have q258 : x6_3 < (l1_4.length : Int) := of_decide_eq_true (by first | (with_reducible assumption) | assumption)
             obtain ⟨ad258, e258, hx258_0⟩ := Kd.at_bool HR1_4.out x6_3 p258 q258
             cases e258
             replace hx258_0 := (HB.out.cell (World.block_lt_of_cell? w _ hx258_0)).trans hx258_0
             replace p258 := eq_true p258
             replace q258 := eq_true q258
             go_wp2
             repeat (go_quiet (fail); try go_wp2)
             go_roundg k3
             case measure => have := HJ2.out; have := HK2.out; have := HK3.out; omega
             case rel => exact ⟨(wrap64 (x6_3 + 1)), (by first | rfl | (simp; done) | (simp [*]; done)), H', ⟨by have := HJ2.out; have := HK2.out; have := HK3.out; omega⟩, ⟨by (with_reducible repeat (first | refine bN ?_ _ | refine bD ?_ | refine bA ?_ _)); exact BK253.out⟩, ⟨by (with_reducible repeat (first | refine bN ?_ _ | refine bD ?_ | refine bA ?_ _)); exact BK254.out⟩, ⟨by repeat (first | (with_reducible first | exact HB.out | apply lA | apply lN | apply lD | refine lS ?_ GE253.out | refine lS ?_ GE254.out) | exact HB.out)⟩⟩
           ·rw [if_neg c44] at H
            exact absurd H (by simp)
          ·rw [if_neg c43] at H
           exact absurd H (by simp)
         ·rw [if_neg c42] at H
          have c42b0 : decide (x6_3 < (l0_4.length : Int)) = false := decide_eq_false c42
          clear c42
          obtain rfl := Option.some.inj H
          have hnb52 := NB253_254.out
          have hnc52 := NB254_253.out
          have hcz53_0 : wr.cell? ⟨gb253, 0, none⟩ = some (.int .i64 a0_0) := (bC BK253.out 0).trans rfl
          have hcz53_1 : wr.cell? ⟨gb253, 1, none⟩ = some (.int .i64 a0_1) := (bC BK253.out 1).trans rfl
          have hcz53_2 : wr.cell? ⟨gb253, 2, none⟩ = some (.int .i64 a0_2) := (bC BK253.out 2).trans rfl
          have hcz53_3 : wr.cell? ⟨gb253, 3, none⟩ = some (.slice A0_3 l0_3.length c0_3) := (bC BK253.out 3).trans rfl
          have hcz53_4 : wr.cell? ⟨gb253, 4, none⟩ = some (.slice A0_4 l0_4.length c0_4) := (bC BK253.out 4).trans rfl
          have hcz53_5 : wr.cell? ⟨gb253, 5, none⟩ = some (.bool a0_5) := (bC BK253.out 5).trans rfl
          have hfz53_0 := bF BK253.out 0
          have hfz53_1 := bF BK253.out 1
          have hfz53_2 := bF BK253.out 2
          have hfz53_3 := bF BK253.out 3
          have hfz53_4 := bF BK253.out 4
          have hfz53_5 := bF BK253.out 5
          go_wp2
          repeat (go_quiet (fail); try go_wp2)
          all_goals (go_ret; exact ⟨by first | rfl | (simp [errW_none, errW_some] <;> rfl) | (simp [*, errW_none, errW_some] <;> rfl) | (simp_all; done), by repeat (first | (with_reducible first | exact HB.out | apply lA | apply lN | apply lD | refine lS ?_ GE253.out | refine lS ?_ GE254.out) | exact HB.out)⟩)

end Go.Proofs.Ytoonddgldmfleaa.QSchedPlays
