-- Written by a program of this session (wip/tools/mkprint.py over the kit's print); Lean checks it.
import Derived.Test.YtoonddgldmfleaaQSchedPlaysx0
import Derived.Test.YtoonddgldmfleaaQSchedPlaysx4
import Derived.Test.YtoonddgldmfleaaQSchedPlaysx5
namespace Go.Proofs.Ytoonddgldmfleaa.QSchedPlays
open Go.RowKit Go.Proofs.YtoonddgldmfleaaW.PrintWords Go.Proofs.YtoonddgldmfleaaW.PrintLast Go.Proofs.YtoonddgldmfleaaW.PrintMore
attribute [local go_sem] max2_int min2_int max_two min_two max_three min_three max_four min_four   -- for this text's walks alone
set_option linter.unusedVariables false
set_option linter.unusedSimpArgs false

/-! ### hornbeamref21_Ready: function 40 -/
mutual
def hornbeamref21_Ready.j0 : Nat → List Int → Bool → Int → Int → Int → List Int → List Bool → Bool → Option (List Int)
 | 0, _, _, _, _, _, _, _, _ => none
 | k + 1, x3, x19, x166000, x166001, x166002, x166003, x166004, x166005 => if x19 = true then (if x3.length < 17592186044416 then (hornbeamref21_Ready.j1 k (x3 ++ [0]) x166000 x166001 x166002 x166003 x166004 x166005) else (none)) else (hornbeamref21_Ready.j1 k x3 x166000 x166001 x166002 x166003 x166004 x166005)
def hornbeamref21_Ready.j1 : Nat → List Int → Int → Int → Int → List Int → List Bool → Bool → Option (List Int)
 | 0, _, _, _, _, _, _, _ => none
 | k + 1, x3, x166000, x166001, x166002, x166003, x166004, x166005 => hornbeamref21_Ready.l0 k x3 0 x166000 x166001 x166002 x166003 x166004 x166005
def hornbeamref21_Ready.l0 : Nat → List Int → Int → Int → Int → Int → List Int → List Bool → Bool → Option (List Int)
 | 0, _, _, _, _, _, _, _, _ => none
 | k + 1, x3, x4, x166000, x166001, x166002, x166003, x166004, x166005 => if x4 < x166001 then (if 0 ≤ x4 then (if x4 < (x166003.length : Int) then (if (rd x166003 x4) > (-2) then (if x3.length < 17592186044416 then (hornbeamref21_Ready.l0 k (x3 ++ [wrap64 (x4 + 1)]) (wrap64 (x4 + 1)) x166000 x166001 x166002 x166003 x166004 x166005) else (none)) else (hornbeamref21_Ready.l0 k x3 (wrap64 (x4 + 1)) x166000 x166001 x166002 x166003 x166004 x166005)) else (none)) else (none)) else (some x3)
end
def hornbeamref21_Ready.f (k : Nat) (a0_0 : Int) (a0_1 : Int) (a0_2 : Int) (l0_3 : List Int) (l0_4 : List Bool) (a0_5 : Bool) : Option (List Int) := (some (([] : List Int) : List Int)).bind fun y166 => ((hornbeamref21_May.f k a0_0 a0_1 a0_2 l0_3 l0_4 a0_5).bind fun t169 => (if t169 = true then ((hornbeamref21_does.f k a0_0 a0_1 a0_2 l0_3 l0_4 a0_5 (-2)).bind fun t170 => (if t170 = a0_1 then (hornbeamref21_Ready.j0 k y166 (!a0_5) a0_0 a0_1 a0_2 l0_3 l0_4 a0_5) else (hornbeamref21_Ready.j0 k y166 false a0_0 a0_1 a0_2 l0_3 l0_4 a0_5))) else (some y166)))
theorem hornbeamref21_Ready.mono_l : ∀ k, (∀ y0 y1 y2 y3 y4 y5 y6 y7, LeO (hornbeamref21_Ready.j0 k y0 y1 y2 y3 y4 y5 y6 y7) (hornbeamref21_Ready.j0 (k + 1) y0 y1 y2 y3 y4 y5 y6 y7)) ∧ (∀ y0 y1 y2 y3 y4 y5 y6, LeO (hornbeamref21_Ready.j1 k y0 y1 y2 y3 y4 y5 y6) (hornbeamref21_Ready.j1 (k + 1) y0 y1 y2 y3 y4 y5 y6)) ∧ (∀ y0 y1 y2 y3 y4 y5 y6 y7, LeO (hornbeamref21_Ready.l0 k y0 y1 y2 y3 y4 y5 y6 y7) (hornbeamref21_Ready.l0 (k + 1) y0 y1 y2 y3 y4 y5 y6 y7))
 | 0 => ⟨fun _ _ _ _ _ _ _ _ r h => by simp [hornbeamref21_Ready.j0] at h, fun _ _ _ _ _ _ _ r h => by simp [hornbeamref21_Ready.j1] at h, fun _ _ _ _ _ _ _ _ r h => by simp [hornbeamref21_Ready.l0] at h⟩
 | k + 1 => by
  obtain ⟨ih0, ih1, ih2⟩ := hornbeamref21_Ready.mono_l k
  refine ⟨?_, ?_, ?_⟩
  ·intro y0 y1 y2 y3 y4 y5 y6 y7
   unfold hornbeamref21_Ready.j0
   repeat' first
   | (with_reducible exact ih0 _ _ _ _ _ _ _ _)
   | (with_reducible exact ih1 _ _ _ _ _ _ _)
   | (with_reducible exact ih2 _ _ _ _ _ _ _ _)
   | (with_reducible exact hornbeamref21_May.mono _ _ _ _ _ _ _)
   | (with_reducible exact hornbeamref21_does.mono _ _ _ _ _ _ _ _)
   | (with_reducible exact LeO.refl _)
   | (with_reducible exact LeO.none _)
   | (with_reducible refine LeO.ite ?_ ?_)
   | (with_reducible refine LeO.bind ?_ (fun _ => ?_))
   | exact ih0 _ _ _ _ _ _ _ _
   | exact ih1 _ _ _ _ _ _ _
   | exact ih2 _ _ _ _ _ _ _ _
   | exact hornbeamref21_May.mono _ _ _ _ _ _ _
   | exact hornbeamref21_does.mono _ _ _ _ _ _ _ _
   | exact LeO.none _
   | refine LeO.ite ?_ ?_
   | refine LeO.bind ?_ (fun _ => ?_)
  ·intro y0 y1 y2 y3 y4 y5 y6
   unfold hornbeamref21_Ready.j1
   repeat' first
   | (with_reducible exact ih0 _ _ _ _ _ _ _ _)
   | (with_reducible exact ih1 _ _ _ _ _ _ _)
   | (with_reducible exact ih2 _ _ _ _ _ _ _ _)
   | (with_reducible exact hornbeamref21_May.mono _ _ _ _ _ _ _)
   | (with_reducible exact hornbeamref21_does.mono _ _ _ _ _ _ _ _)
   | (with_reducible exact LeO.refl _)
   | (with_reducible exact LeO.none _)
   | (with_reducible refine LeO.ite ?_ ?_)
   | (with_reducible refine LeO.bind ?_ (fun _ => ?_))
   | exact ih0 _ _ _ _ _ _ _ _
   | exact ih1 _ _ _ _ _ _ _
   | exact ih2 _ _ _ _ _ _ _ _
   | exact hornbeamref21_May.mono _ _ _ _ _ _ _
   | exact hornbeamref21_does.mono _ _ _ _ _ _ _ _
   | exact LeO.none _
   | refine LeO.ite ?_ ?_
   | refine LeO.bind ?_ (fun _ => ?_)
  ·intro y0 y1 y2 y3 y4 y5 y6 y7
   unfold hornbeamref21_Ready.l0
   repeat' first
   | (with_reducible exact ih0 _ _ _ _ _ _ _ _)
   | (with_reducible exact ih1 _ _ _ _ _ _ _)
   | (with_reducible exact ih2 _ _ _ _ _ _ _ _)
   | (with_reducible exact hornbeamref21_May.mono _ _ _ _ _ _ _)
   | (with_reducible exact hornbeamref21_does.mono _ _ _ _ _ _ _ _)
   | (with_reducible exact LeO.refl _)
   | (with_reducible exact LeO.none _)
   | (with_reducible refine LeO.ite ?_ ?_)
   | (with_reducible refine LeO.bind ?_ (fun _ => ?_))
   | exact ih0 _ _ _ _ _ _ _ _
   | exact ih1 _ _ _ _ _ _ _
   | exact ih2 _ _ _ _ _ _ _ _
   | exact hornbeamref21_May.mono _ _ _ _ _ _ _
   | exact hornbeamref21_does.mono _ _ _ _ _ _ _ _
   | exact LeO.none _
   | refine LeO.ite ?_ ?_
   | refine LeO.bind ?_ (fun _ => ?_)
theorem hornbeamref21_Ready.mono : ∀ a0 a1 a2 a3 a4 a5 k, LeO (hornbeamref21_Ready.f k a0 a1 a2 a3 a4 a5) (hornbeamref21_Ready.f (k + 1) a0 a1 a2 a3 a4 a5) := by
 intro a0 a1 a2 a3 a4 a5 k
 obtain ⟨ih0, ih1, ih2⟩ := hornbeamref21_Ready.mono_l k
 unfold hornbeamref21_Ready.f
 repeat' first
   | (with_reducible exact ih0 _ _ _ _ _ _ _ _)
   | (with_reducible exact ih1 _ _ _ _ _ _ _)
   | (with_reducible exact ih2 _ _ _ _ _ _ _ _)
   | (with_reducible exact hornbeamref21_May.mono _ _ _ _ _ _ _)
   | (with_reducible exact hornbeamref21_does.mono _ _ _ _ _ _ _ _)
   | (with_reducible exact LeO.refl _)
   | (with_reducible exact LeO.none _)
   | (with_reducible refine LeO.ite ?_ ?_)
   | (with_reducible refine LeO.bind ?_ (fun _ => ?_))
   | exact ih0 _ _ _ _ _ _ _ _
   | exact ih1 _ _ _ _ _ _ _
   | exact ih2 _ _ _ _ _ _ _ _
   | exact hornbeamref21_May.mono _ _ _ _ _ _ _
   | exact hornbeamref21_does.mono _ _ _ _ _ _ _ _
   | exact LeO.none _
   | refine LeO.ite ?_ ?_
   | refine LeO.bind ?_ (fun _ => ?_)
def hornbeamref21_Ready.T4 : Bool × List (List Nat × List Nat) := (true, [([], []), ([0], [0]), ([], []), ([2], [2]), ([1, 3], [1, 3]), ([4, 1], [4]), ([5], [5]), ([6, 5], [5, 6]), ([7, 5], [5, 7]), ([5, 8], [5, 8])])
def hornbeamref21_Ready.B4 : List Nat := [0, 1, 0, 4, 15, 31, 63, 127, 255, 511]
theorem hornbeamref21_Ready.tab4 : rtab .any (opsOf Try.f40 4) = hornbeamref21_Ready.T4 := by kernel_rfl
theorem hornbeamref21_Ready.bits4 : waitsOk hornbeamref21_Ready.T4.2 hornbeamref21_Ready.B4 = true := by kernel_rfl
set_option maxHeartbeats 8000000 in
set_option maxRecDepth 100000 in
theorem hornbeamref21_Ready.calls (k : Nat) (a0_0 : Int) (a0_1 : Int) (a0_2 : Int) (A0_3 : Option Addr) (c0_3 : Nat) (l0_3 : List Int) (A0_4 : Option Addr) (c0_4 : Nat) (l0_4 : List Bool) (a0_5 : Bool) (r : List Int) (w : World) (hr0_3 : Kd.C (Kd.int .i64) w A0_3 l0_3.length l0_3) (hc0_3 : l0_3.length ≤ c0_3) (hr0_4 : Kd.C Kd.bool w A0_4 l0_4.length l0_4) (hc0_4 : l0_4.length ≤ c0_4) (h : hornbeamref21_Ready.f k a0_0 a0_1 a0_2 l0_3 l0_4 a0_5 = some r) :
  Calls Try.prog 40 #[.agg #[.int .i64 a0_0, .int .i64 a0_1, .int .i64 a0_2, .slice A0_3 l0_3.length c0_3, .slice A0_4 l0_4.length c0_4, .bool a0_5]] w fun e w' => ∃ v0_ : Value, e = .returned (v0_) ∧ Kd.R (Kd.int .i64) 3 w' w.heap.size (fun _ => True) v0_ r ∧ Below w.heap.size w w' := by
 have hu42 := Try.underlying42
 have HR0_3 := aaM hr0_3
 have HC0_3 := aaM hc0_3
 clear hr0_3 hc0_3
 have HR0_4 := aaM hr0_4
 have HC0_4 := aaM hc0_4
 clear hr0_4 hc0_4
 have HB := aaM (Below.refl w.heap.size w)
 have H : ((some (([] : List Int) : List Int)).bind fun y166 => ((hornbeamref21_May.f k a0_0 a0_1 a0_2 l0_3 l0_4 a0_5).bind fun t169 => (if t169 = true then ((hornbeamref21_does.f k a0_0 a0_1 a0_2 l0_3 l0_4 a0_5 (-2)).bind fun t170 => (if t170 = a0_1 then (hornbeamref21_Ready.j0 k y166 (!a0_5) a0_0 a0_1 a0_2 l0_3 l0_4 a0_5) else (hornbeamref21_Ready.j0 k y166 false a0_0 a0_1 a0_2 l0_3 l0_4 a0_5))) else (some y166)))) = some r := h
 clear h
 obtain ⟨y166, hy166⟩ : ∃ y_ : List Int, y_ = (([] : List Int)) := ⟨_, rfl⟩
 replace H : ((hornbeamref21_May.f k a0_0 a0_1 a0_2 l0_3 l0_4 a0_5).bind fun t169 => (if t169 = true then ((hornbeamref21_does.f k a0_0 a0_1 a0_2 l0_3 l0_4 a0_5 (-2)).bind fun t170 => (if t170 = a0_1 then (hornbeamref21_Ready.j0 k y166 (!a0_5) a0_0 a0_1 a0_2 l0_3 l0_4 a0_5) else (hornbeamref21_Ready.j0 k y166 false a0_0 a0_1 a0_2 l0_3 l0_4 a0_5))) else (some y166))) = some r := by first | (rw [hy166]; with_reducible exact H) | (have H2_ := (Option.bind_some _ _).symm.trans H; rw [hy166]; with_reducible exact H2_) | (have H2_ := (Option.bind_some _ _).symm.trans H; with_reducible exact H2_) | with_reducible exact H | (rw [hy166]; exact H) | exact H
 have Ny166 := aaM hy166
 clear hy166
 replace H := ooB.mp H
 obtain ⟨t169, A20, H⟩ := H
 replace H : (if t169 = true then ((hornbeamref21_does.f k a0_0 a0_1 a0_2 l0_3 l0_4 a0_5 (-2)).bind fun t170 => (if t170 = a0_1 then (hornbeamref21_Ready.j0 k y166 (!a0_5) a0_0 a0_1 a0_2 l0_3 l0_4 a0_5) else (hornbeamref21_Ready.j0 k y166 false a0_0 a0_1 a0_2 l0_3 l0_4 a0_5))) else (some y166)) = some r := H
 have A2 := aaM A20
 clear A20
 by_cases c3 : t169 = true
 ·subst c3
  have H1 : ((hornbeamref21_does.f k a0_0 a0_1 a0_2 l0_3 l0_4 a0_5 (-2)).bind fun t170 => (if t170 = a0_1 then (hornbeamref21_Ready.j0 k y166 (!a0_5) a0_0 a0_1 a0_2 l0_3 l0_4 a0_5) else (hornbeamref21_Ready.j0 k y166 false a0_0 a0_1 a0_2 l0_3 l0_4 a0_5))) = some r := by rw [if_pos rfl] at H; exact H
  clear H
  have H := H1
  clear H1
  have HC4 := aaM H
  clear H
  go_enter Try.func40, Try.ntmps40
  go_upto_region 4 with (first | ((with_reducible refine gate_dst (N := 1) rfl ?_); refine box_event ?hg (N := 1) ?hd (cs := #[.int .i64 a0_0, .int .i64 a0_1, .int .i64 a0_2, .slice A0_3 l0_3.length c0_3, .slice A0_4 l0_4.length c0_4, .bool a0_5]) (t := 42) ?hr ?_; (case hd => rfl); (case hg => rfl); (case hr => first | (go_simp; done) | (go_simp; rfl)); intro gb165 hg w5 hbox hb; have n0_ := aaM (lP (by repeat (first | (with_reducible first | exact HB.out | apply lA | apply lN | apply lD) | exact HB.out)) hb); have n1_ := aaM (hbox); have n2_ := aaM ((by rw [hg]; exact (lZ (by repeat (first | (with_reducible first | exact HB.out | apply lA | apply lN | apply lD) | exact HB.out))) : w.heap.size ≤ gb165)); have n3_ := aaM ((by rw [hg]; exact (lZ (by repeat (first | (with_reducible first | exact HB.out | apply lA | apply lN | apply lD) | exact HB.out))) : w.heap.size ≤ gb165)); clear HB; have HB := n0_; have BK165 := n1_; have GW165 := n2_; have GE165 := n3_; clear n0_ n1_ n2_ n3_; clear hb hbox hg) | ((with_reducible refine gate_dst (N := 5) rfl ?_); refine Kd.R_lit (Kd.int .i64) _ 3 ?hg (N := 5) ?hd (xs := ([] : List Int)) (inner := []) (ok := fun _ => True) (okp := fun _ => True) ?hr ?hp (fun _ hk => hk) trivial (Below.refl _ _) (Nat.le_refl _) (by simp) ?_; (case hd => rfl); (case hg => rfl); (case hr => first | (go_simp; done) | (go_simp; rfl)); (case hp => exact (Reps.none _ _)); intro v167 w6 ho7 hb hg_ hnew_; clear hg_ hnew_; (first | rw [← Ny166.out] at ho7 | (simp only [Int.reduceToNat] at ho7; rw [← Ny166.out] at ho7)); have n0_ := aaM (Kd.R_lower ho7 (lZ (by repeat (first | (with_reducible first | exact HB.out | apply lA | apply lN | apply lD | refine lS ?_ GE165.out) | exact HB.out)))); have n1_ := aaM (bB (g := gb165) (o := .cells #[.int .i64 a0_0, .int .i64 a0_1, .int .i64 a0_2, .slice A0_3 l0_3.length c0_3, .slice A0_4 l0_4.length c0_4, .bool a0_5] 42 (0, 0)) (by (with_reducible repeat (first | refine bN ?_ _ | refine bD ?_ | refine bA ?_ _)); exact BK165.out) hb); have n2_ := aaM (lP (by repeat (first | (with_reducible first | exact HB.out | apply lA | apply lN | apply lD | refine lS ?_ GE165.out) | exact HB.out)) hb); clear BK165; clear HB; have HO168 := n0_; have BK165 := n1_; have HB := n2_; clear n0_ n1_ n2_; clear hb ho7; have hcz8_0 : w6.cell? ⟨gb165, 0, none⟩ = some (.int .i64 a0_0) := (bC BK165.out 0).trans rfl; have hcz8_1 : w6.cell? ⟨gb165, 1, none⟩ = some (.int .i64 a0_1) := (bC BK165.out 1).trans rfl; have hcz8_2 : w6.cell? ⟨gb165, 2, none⟩ = some (.int .i64 a0_2) := (bC BK165.out 2).trans rfl; have hcz8_3 : w6.cell? ⟨gb165, 3, none⟩ = some (.slice A0_3 l0_3.length c0_3) := (bC BK165.out 3).trans rfl; have hcz8_4 : w6.cell? ⟨gb165, 4, none⟩ = some (.slice A0_4 l0_4.length c0_4) := (bC BK165.out 4).trans rfl; have hcz8_5 : w6.cell? ⟨gb165, 5, none⟩ = some (.bool a0_5) := (bC BK165.out 5).trans rfl; have hfz8_0 := bF BK165.out 0; have hfz8_1 := bF BK165.out 1; have hfz8_2 := bF BK165.out 2; have hfz8_3 := bF BK165.out 3; have hfz8_4 := bF BK165.out 4; have hfz8_5 := bF BK165.out 5) | ((with_reducible refine gate_callee (f := 38) rfl ?_); refine goesL_ (some 7) rfl rfl Try.func38 (by kernel_rfl) rfl #[.agg #[.int .i64 a0_0, .int .i64 a0_1, .int .i64 a0_2, .slice A0_3 l0_3.length c0_3, .slice A0_4 l0_4.length c0_4, .bool a0_5]] rfl (by (try simp only [List.map_toArray, List.map_cons, List.map_nil]); first | done | rfl | (simp only [List.length_drop, List.length_take]; rfl)) ?_; (with_reducible refine (hornbeamref21_May.calls k a0_0 a0_1 a0_2 _ _ l0_3 _ _ l0_4 a0_5 true _ ?side1 ?side2 ?side3 ?side4 A2.out).mono ?_); (case side1 => repeat (first | exact (ccB HR0_3.out HB.out) | (with_reducible refine ccA ?_ _) | (with_reducible refine ccN ?_ _) | (with_reducible refine ccD ?_))); (case side2 => exact HC0_3.out); (case side3 => repeat (first | exact (ccB HR0_4.out HB.out) | (with_reducible refine ccA ?_ _) | (with_reducible refine ccN ?_ _) | (with_reducible refine ccD ?_))); (case side4 => exact HC0_4.out); rintro e w9 ⟨rfl, hb⟩; refine ⟨_, rfl, ?_⟩; have n0_ := aaM (rrB (by (with_reducible repeat (first | apply rrA | apply rrN | apply rrD)); exact HO168.out) hb); have n1_ := aaM (bB (g := gb165) (o := .cells #[.int .i64 a0_0, .int .i64 a0_1, .int .i64 a0_2, .slice A0_3 l0_3.length c0_3, .slice A0_4 l0_4.length c0_4, .bool a0_5] 42 (0, 0)) (by (with_reducible repeat (first | refine bN ?_ _ | refine bD ?_ | refine bA ?_ _)); exact BK165.out) hb); have n2_ := aaM (lP (by repeat (first | (with_reducible first | exact HB.out | apply lA | apply lN | apply lD | refine lS ?_ GE165.out) | exact HB.out)) hb); clear HO168; clear BK165; clear HB; have HO168 := n0_; have BK165 := n1_; have HB := n2_; clear n0_ n1_ n2_; (try clear hb); (try clear hb2); (try clear hk); (try clear hi)))
  (try simp only [Act.put, ssB, ssZ, ssS])
  go_cut [19] (fun v19 wc => ∃ (kq : Nat) (x19_3 : Bool), v19 = .bool x19_3 ∧ Aside0 (hornbeamref21_Ready.j0 kq y166 x19_3 a0_0 a0_1 a0_2 l0_3 l0_4 a0_5 = some r) ∧ Aside0 (kq ≤ k) ∧ Aside0 (Kd.R (Kd.int .i64) 3 wc w.heap.size (fun _ => True) v167 y166) ∧ Aside0 (wc.heap[gb165]? = some (.cells #[.int .i64 a0_0, .int .i64 a0_1, .int .i64 a0_2, (.slice A0_3 l0_3.length c0_3), (.slice A0_4 l0_4.length c0_4), .bool a0_5] 42 (0, 0))) ∧ Aside0 (Below w.heap.size w wc))
  case first =>
   have H := HC4.out
   clear HC4
   replace H := ooB.mp H
   obtain ⟨t170, A100, H⟩ := H
   replace H : (if t170 = a0_1 then (hornbeamref21_Ready.j0 k y166 (!a0_5) a0_0 a0_1 a0_2 l0_3 l0_4 a0_5) else (hornbeamref21_Ready.j0 k y166 false a0_0 a0_1 a0_2 l0_3 l0_4 a0_5)) = some r := H
   have A10 := aaM A100
   clear A100
   by_cases c11 : t170 = a0_1
   ·rw [if_pos c11] at H
    have c11b0 : (t170 == a0_1) = true := beq_iff_eq.mpr c11
    have c11b1 : (t170 != a0_1) = false := bne_eq_false_iff_eq.mpr c11
    clear c11
    (first | rw [c11b0] | (simp only [i64_w, i32_w]; rw [c11b0]) | skip)
    have H' := aaM H
    clear H
    try go_wp2
    have n0_ := aaM (rrD HO168.out)
    have n1_ := aaM (bD BK165.out)
    have n2_ := aaM (lD HB.out)
    clear HO168 BK165 HB
    have HO168 := n0_
    have BK165 := n1_
    have HB := n2_
    clear n0_ n1_ n2_
    refine start_ (n := 10) (S := fun w' => w'.cell? ⟨gb165, 0, none⟩ = some (.int .i64 a0_0) ∧ w'.cell? ⟨gb165, 1, none⟩ = some (.int .i64 a0_1) ∧ w'.cell? ⟨gb165, 2, none⟩ = some (.int .i64 a0_2) ∧ w'.cell? ⟨gb165, 3, none⟩ = some (.slice A0_3 l0_3.length c0_3) ∧ w'.cell? ⟨gb165, 4, none⟩ = some (.slice A0_4 l0_4.length c0_4) ∧ w'.cell? ⟨gb165, 5, none⟩ = some (.bool a0_5)) (ds := []) #[false, false, false, false, false, false, false, false, false, false] (by kernel_rfl) rfl rfl ⟨(bC BK165.out 0).trans rfl, (bC BK165.out 1).trans rfl, (bC BK165.out 2).trans rfl, (bC BK165.out 3).trans rfl, (bC BK165.out 4).trans rfl, (bC BK165.out 5).trans rfl⟩ (fun hHeld => ?_); refine with_tabW hornbeamref21_Ready.tab4 hornbeamref21_Ready.bits4 (fun HT_ HW_ => ?_)
    generalize w9.drew = w12 at HO168 BK165 HB hHeld ⊢
    refine pure_ (i := 2) (N := some 12) (v := ?_) (a' := ?_) #[false, false, true, false, false, false, false, false, false, false] rfl rfl (any_of HT_.out (by kernel_rfl)) (fun _ _ _ h => h) (Or.inl ⟨by rfl, ?_⟩) ?_ ?_
    rotate_left
    ·intro w'
     go_simp
     with_reducible rfl
    rotate_left
    ·simp only [Act.put, ssB, ssZ, ssS, i64_w, i32_w]
     rfl
    refine take_ (i := 0) (N := some 10) (v := ?_) (a' := ?_) #[true, false, true, false, false, false, false, false, false, false] rfl rfl (take_ofW HT_.out HW_.out (by kernel_rfl)) (fun _ _ _ h => h) (Or.inl ⟨by rfl, ?_⟩) hHeld ?_ ?_
    rotate_left
    ·rintro w' ⟨s0, s1, s2, s3, s4, s5⟩
     go_simp
     with_reducible rfl
    rotate_left
    ·simp only [Act.put, ssB, ssZ, ssS, i64_w, i32_w]
     rfl
    refine take_ (i := 3) (N := some 13) (v := ?_) (a' := ?_) #[true, false, true, true, false, false, false, false, false, false] rfl rfl (take_ofW HT_.out HW_.out (by kernel_rfl)) (fun _ _ _ h => h) (Or.inl ⟨by rfl, ?_⟩) hHeld ?_ ?_
    rotate_left
    ·rintro w' ⟨s0, s1, s2, s3, s4, s5⟩
     go_simp
     with_reducible rfl
    rotate_left
    ·simp only [Act.put, ssB, ssZ, ssS, i64_w, i32_w]
     rfl
    refine one_ (i := 1) (N := some 11) #[true, true, true, true, false, false, false, false, false, false] rfl rfl (one_of HT_.out (by kernel_rfl)) (by decide) (fun K hK => ?_)
    refine goes_ Try.func69 (by kernel_rfl) rfl #[.agg #[.int .i64 a0_0, .int .i64 a0_1, .int .i64 a0_2, .slice A0_3 l0_3.length c0_3, .slice A0_4 l0_4.length c0_4, .bool a0_5], .int .i64 (-2)] (by rfl) rfl rfl (by (try simp only [List.map_toArray, List.map_cons, List.map_nil]); first | done | rfl | (simp only [List.length_drop, List.length_take]; rfl)) ?_
    with_reducible refine (hornbeamref21_does.calls k a0_0 a0_1 a0_2 _ _ l0_3 _ _ l0_4 a0_5 (-2) t170 _ ?side1 ?side2 ?side3 ?side4 A10.out).mono ?_
    (case side1 => repeat (first | exact (ccB HR0_3.out HB.out) | (with_reducible refine ccA ?_ _) | (with_reducible refine ccN ?_ _) | (with_reducible refine ccD ?_)))
    (case side2 => exact HC0_3.out)
    (case side3 => repeat (first | exact (ccB HR0_4.out HB.out) | (with_reducible refine ccA ?_ _) | (with_reducible refine ccN ?_ _) | (with_reducible refine ccD ?_)))
    (case side4 => exact HC0_4.out)
    rintro e w13 ⟨rfl, hb⟩
    refine ⟨_, rfl, ?_⟩
    have n0_ := aaM (rrB (by (with_reducible repeat (first | apply rrA | apply rrN | apply rrD)); exact HO168.out) hb)
    have n1_ := aaM (bB (g := gb165) (o := .cells #[.int .i64 a0_0, .int .i64 a0_1, .int .i64 a0_2, .slice A0_3 l0_3.length c0_3, .slice A0_4 l0_4.length c0_4, .bool a0_5] 42 (0, 0)) (by (with_reducible repeat (first | refine bN ?_ _ | refine bD ?_ | refine bA ?_ _)); exact BK165.out) hb)
    have n2_ := aaM (lP (by repeat (first | (with_reducible first | exact HB.out | apply lA | apply lN | apply lD | refine lS ?_ GE165.out) | exact HB.out)) hb)
    clear HO168 BK165 HB
    have HO168 := n0_
    have BK165 := n1_
    have HB := n2_
    clear n0_ n1_ n2_
    (try clear hb)
    (try clear hb2)
    (try clear hk)
    (try clear hi)
    refine hK.out _ _ ⟨(bC BK165.out 0).trans rfl, (bC BK165.out 1).trans rfl, (bC BK165.out 2).trans rfl, (bC BK165.out 3).trans rfl, (bC BK165.out 4).trans rfl, (bC BK165.out 5).trans rfl⟩ (fun hHeld => ?_)
    clear hK K
    refine norm_ (a' := ?_) ?_ ?_
    rotate_left
    ·show Act.put _ (some 11) _ = _
     simp only [Act.put, ssB, ssZ, ssS, i64_w, i32_w]
     rfl
    refine pure_ (i := 4) (N := some 14) (v := ?_) (a' := ?_) #[true, true, true, true, true, false, false, false, false, false] rfl rfl (any_of HT_.out (by kernel_rfl)) (fun _ _ _ h => h) (Or.inl ⟨by rfl, ?_⟩) ?_ ?_
    rotate_left
    ·intro w'
     go_simp
     with_reducible rfl
    rotate_left
    ·simp only [Act.put, ssB, ssZ, ssS, i64_w, i32_w]
     rfl
    refine pure_ (i := 5) (N := some 15) (v := ?_) (a' := ?_) #[true, true, true, true, true, true, false, false, false, false] rfl rfl (any_of HT_.out (by kernel_rfl)) (fun _ _ _ h => h) (Or.inl ⟨by rfl, ?_⟩) ?_ ?_
    rotate_left
    ·intro w'
     go_simp
     with_reducible rfl
    rotate_left
    ·simp only [Act.put, ssB, ssZ, ssS, i64_w, i32_w]
     rfl
    refine pure_ (i := 6) (N := some 16) (v := ?_) (a' := ?_) #[true, true, true, true, true, true, true, false, false, false] rfl rfl (any_of HT_.out (by kernel_rfl)) (fun _ _ _ h => h) (Or.inl ⟨by rfl, ?_⟩) ?_ ?_
    rotate_left
    ·intro w'
     go_simp
     with_reducible rfl
    rotate_left
    ·simp only [Act.put, ssB, ssZ, ssS, i64_w, i32_w]
     rfl
    refine take_ (i := 7) (N := some 17) (v := ?_) (a' := ?_) #[true, true, true, true, true, true, true, true, false, false] rfl rfl (take_ofW HT_.out HW_.out (by kernel_rfl)) (fun _ _ _ h => h) (Or.inl ⟨by rfl, ?_⟩) hHeld ?_ ?_
    rotate_left
    ·rintro w' ⟨s0, s1, s2, s3, s4, s5⟩
     go_simp
     with_reducible rfl
    rotate_left
    ·simp only [Act.put, ssB, ssZ, ssS, i64_w, i32_w]
     rfl
    refine pure_ (i := 8) (N := some 18) (v := ?_) (a' := ?_) #[true, true, true, true, true, true, true, true, true, false] rfl rfl (any_of HT_.out (by kernel_rfl)) (fun _ _ _ h => h) (Or.inl ⟨by rfl, ?_⟩) ?_ ?_
    rotate_left
    ·intro w'
     go_simp
     with_reducible rfl
    rotate_left
    ·simp only [Act.put, ssB, ssZ, ssS, i64_w, i32_w]
     rfl
    refine pure_ (i := 9) (N := some 19) (v := ?_) (a' := ?_) #[true, true, true, true, true, true, true, true, true, true] rfl rfl (any_of HT_.out (by kernel_rfl)) (fun _ _ _ h => h) (Or.inl ⟨by rfl, ?_⟩) ?_ ?_
    rotate_left
    ·intro w'
     go_simp
     with_reducible rfl
    rotate_left
    ·simp only [Act.put, ssB, ssZ, ssS, i64_w, i32_w]
     rfl
    refine done_ (done_of HT_.out (by kernel_rfl)) ?_
    try go_wp2
    go_meet
    case rel => exact ⟨_, (!a0_5), (by first | rfl | (simp; done) | (simp [*]; done)), H', ⟨by first | omega | exact Nat.le_refl _⟩, ⟨by (with_reducible repeat (first | apply rrA | apply rrN | apply rrD)); exact HO168.out⟩, ⟨by (with_reducible repeat (first | refine bN ?_ _ | refine bD ?_ | refine bA ?_ _)); exact BK165.out⟩, ⟨by repeat (first | (with_reducible first | exact HB.out | apply lA | apply lN | apply lD | refine lS ?_ GE165.out) | exact HB.out)⟩⟩
   ·rw [if_neg c11] at H
    have c11b0 : (t170 == a0_1) = false := beq_eq_false_iff_ne.mpr c11
    have c11b1 : (t170 != a0_1) = true := bne_iff_ne.mpr c11
    (first | rw [c11b0] | (simp only [i64_w, i32_w]; rw [c11b0]) | skip)
    have H' := aaM H
    clear H
    try go_wp2
    have n0_ := aaM (rrD HO168.out)
    have n1_ := aaM (bD BK165.out)
    have n2_ := aaM (lD HB.out)
    clear HO168 BK165 HB
    have HO168 := n0_
    have BK165 := n1_
    have HB := n2_
    clear n0_ n1_ n2_
    refine start_ (n := 10) (S := fun w' => w'.cell? ⟨gb165, 0, none⟩ = some (.int .i64 a0_0) ∧ w'.cell? ⟨gb165, 1, none⟩ = some (.int .i64 a0_1) ∧ w'.cell? ⟨gb165, 2, none⟩ = some (.int .i64 a0_2) ∧ w'.cell? ⟨gb165, 3, none⟩ = some (.slice A0_3 l0_3.length c0_3) ∧ w'.cell? ⟨gb165, 4, none⟩ = some (.slice A0_4 l0_4.length c0_4) ∧ w'.cell? ⟨gb165, 5, none⟩ = some (.bool a0_5)) (ds := []) #[false, false, false, false, false, false, false, false, false, false] (by kernel_rfl) rfl rfl ⟨(bC BK165.out 0).trans rfl, (bC BK165.out 1).trans rfl, (bC BK165.out 2).trans rfl, (bC BK165.out 3).trans rfl, (bC BK165.out 4).trans rfl, (bC BK165.out 5).trans rfl⟩ (fun hHeld => ?_); refine with_tabW hornbeamref21_Ready.tab4 hornbeamref21_Ready.bits4 (fun HT_ HW_ => ?_)
    generalize w9.drew = w14 at HO168 BK165 HB hHeld ⊢
    refine pure_ (i := 2) (N := some 12) (v := ?_) (a' := ?_) #[false, false, true, false, false, false, false, false, false, false] rfl rfl (any_of HT_.out (by kernel_rfl)) (fun _ _ _ h => h) (Or.inl ⟨by rfl, ?_⟩) ?_ ?_
    rotate_left
    ·intro w'
     go_simp
     with_reducible rfl
    rotate_left
    ·simp only [Act.put, ssB, ssZ, ssS, i64_w, i32_w]
     rfl
    refine take_ (i := 0) (N := some 10) (v := ?_) (a' := ?_) #[true, false, true, false, false, false, false, false, false, false] rfl rfl (take_ofW HT_.out HW_.out (by kernel_rfl)) (fun _ _ _ h => h) (Or.inl ⟨by rfl, ?_⟩) hHeld ?_ ?_
    rotate_left
    ·rintro w' ⟨s0, s1, s2, s3, s4, s5⟩
     go_simp
     with_reducible rfl
    rotate_left
    ·simp only [Act.put, ssB, ssZ, ssS, i64_w, i32_w]
     rfl
    refine take_ (i := 3) (N := some 13) (v := ?_) (a' := ?_) #[true, false, true, true, false, false, false, false, false, false] rfl rfl (take_ofW HT_.out HW_.out (by kernel_rfl)) (fun _ _ _ h => h) (Or.inl ⟨by rfl, ?_⟩) hHeld ?_ ?_
    rotate_left
    ·rintro w' ⟨s0, s1, s2, s3, s4, s5⟩
     go_simp
     with_reducible rfl
    rotate_left
    ·simp only [Act.put, ssB, ssZ, ssS, i64_w, i32_w]
     rfl
    refine one_ (i := 1) (N := some 11) #[true, true, true, true, false, false, false, false, false, false] rfl rfl (one_of HT_.out (by kernel_rfl)) (by decide) (fun K hK => ?_)
    refine goes_ Try.func69 (by kernel_rfl) rfl #[.agg #[.int .i64 a0_0, .int .i64 a0_1, .int .i64 a0_2, .slice A0_3 l0_3.length c0_3, .slice A0_4 l0_4.length c0_4, .bool a0_5], .int .i64 (-2)] (by rfl) rfl rfl (by (try simp only [List.map_toArray, List.map_cons, List.map_nil]); first | done | rfl | (simp only [List.length_drop, List.length_take]; rfl)) ?_
    with_reducible refine (hornbeamref21_does.calls k a0_0 a0_1 a0_2 _ _ l0_3 _ _ l0_4 a0_5 (-2) t170 _ ?side1 ?side2 ?side3 ?side4 A10.out).mono ?_
    (case side1 => repeat (first | exact (ccB HR0_3.out HB.out) | (with_reducible refine ccA ?_ _) | (with_reducible refine ccN ?_ _) | (with_reducible refine ccD ?_)))
    (case side2 => exact HC0_3.out)
    (case side3 => repeat (first | exact (ccB HR0_4.out HB.out) | (with_reducible refine ccA ?_ _) | (with_reducible refine ccN ?_ _) | (with_reducible refine ccD ?_)))
    (case side4 => exact HC0_4.out)
    rintro e w15 ⟨rfl, hb⟩
    refine ⟨_, rfl, ?_⟩
    have n0_ := aaM (rrB (by (with_reducible repeat (first | apply rrA | apply rrN | apply rrD)); exact HO168.out) hb)
    have n1_ := aaM (bB (g := gb165) (o := .cells #[.int .i64 a0_0, .int .i64 a0_1, .int .i64 a0_2, .slice A0_3 l0_3.length c0_3, .slice A0_4 l0_4.length c0_4, .bool a0_5] 42 (0, 0)) (by (with_reducible repeat (first | refine bN ?_ _ | refine bD ?_ | refine bA ?_ _)); exact BK165.out) hb)
    have n2_ := aaM (lP (by repeat (first | (with_reducible first | exact HB.out | apply lA | apply lN | apply lD | refine lS ?_ GE165.out) | exact HB.out)) hb)
    clear HO168 BK165 HB
    have HO168 := n0_
    have BK165 := n1_
    have HB := n2_
    clear n0_ n1_ n2_
    (try clear hb)
    (try clear hb2)
    (try clear hk)
    (try clear hi)
    refine hK.out _ _ ⟨(bC BK165.out 0).trans rfl, (bC BK165.out 1).trans rfl, (bC BK165.out 2).trans rfl, (bC BK165.out 3).trans rfl, (bC BK165.out 4).trans rfl, (bC BK165.out 5).trans rfl⟩ (fun hHeld => ?_)
    clear hK K
    refine norm_ (a' := ?_) ?_ ?_
    rotate_left
    ·show Act.put _ (some 11) _ = _
     simp only [Act.put, ssB, ssZ, ssS, i64_w, i32_w]
     rfl
    refine pure_ (i := 4) (N := some 14) (v := ?_) (a' := ?_) #[true, true, true, true, true, false, false, false, false, false] rfl rfl (any_of HT_.out (by kernel_rfl)) (fun _ _ _ h => h) (Or.inl ⟨by rfl, ?_⟩) ?_ ?_
    rotate_left
    ·intro w'
     go_simp
     with_reducible rfl
    rotate_left
    ·simp only [Act.put, ssB, ssZ, ssS, i64_w, i32_w]
     rfl
    refine pure_ (i := 5) (N := some 15) (v := ?_) (a' := ?_) #[true, true, true, true, true, true, false, false, false, false] rfl rfl (any_of HT_.out (by kernel_rfl)) (fun _ _ _ h => h) (Or.inl ⟨by rfl, ?_⟩) ?_ ?_
    rotate_left
    ·intro w'
     go_simp
     with_reducible rfl
    rotate_left
    ·simp only [Act.put, ssB, ssZ, ssS, i64_w, i32_w]
     rfl
    refine pure_ (i := 6) (N := some 16) (v := undef) (a' := ?_) #[true, true, true, true, true, true, true, false, false, false] rfl rfl (any_of HT_.out (by kernel_rfl)) (fun _ _ _ h => h) (Or.inr ⟨by rfl, rfl⟩) ?_ ?_
    rotate_left
    ·simp only [Act.put, ssB, ssZ, ssS, i64_w, i32_w]
     rfl
    refine pure_ (i := 7) (N := some 17) (v := undef) (a' := ?_) #[true, true, true, true, true, true, true, true, false, false] rfl rfl (any_of HT_.out (by kernel_rfl)) (fun _ _ _ h => h) (Or.inr ⟨by rfl, rfl⟩) ?_ ?_
    rotate_left
    ·simp only [Act.put, ssB, ssZ, ssS, i64_w, i32_w]
     rfl
    refine pure_ (i := 8) (N := some 18) (v := undef) (a' := ?_) #[true, true, true, true, true, true, true, true, true, false] rfl rfl (any_of HT_.out (by kernel_rfl)) (fun _ _ _ h => h) (Or.inr ⟨by rfl, rfl⟩) ?_ ?_
    rotate_left
    ·simp only [Act.put, ssB, ssZ, ssS, i64_w, i32_w]
     rfl
    refine pure_ (i := 9) (N := some 19) (v := ?_) (a' := ?_) #[true, true, true, true, true, true, true, true, true, true] rfl rfl (any_of HT_.out (by kernel_rfl)) (fun _ _ _ h => h) (Or.inl ⟨by rfl, ?_⟩) ?_ ?_
    rotate_left
    ·intro w'
     go_simp
     with_reducible rfl
    rotate_left
    ·simp only [Act.put, ssB, ssZ, ssS, i64_w, i32_w]
     rfl
    refine done_ (done_of HT_.out (by kernel_rfl)) ?_
    try go_wp2
    go_meet
    case rel => exact ⟨_, (false), (by first | rfl | (simp; done) | (simp [*]; done)), H', ⟨by first | omega | exact Nat.le_refl _⟩, ⟨by (with_reducible repeat (first | apply rrA | apply rrN | apply rrD)); exact HO168.out⟩, ⟨by (with_reducible repeat (first | refine bN ?_ _ | refine bD ?_ | refine bA ?_ _)); exact BK165.out⟩, ⟨by repeat (first | (with_reducible first | exact HB.out | apply lA | apply lN | apply lD | refine lS ?_ GE165.out) | exact HB.out)⟩⟩
  case rest =>
   clear HC4
   try clear c1
   try clear p2
   try clear c3
   try clear c4
   try clear c6
   try clear c11
   try clear c11b0
   try clear c11b1
   try clear hcz8_0
   try clear hcz8_1
   try clear hcz8_2
   try clear hcz8_3
   try clear hcz8_4
   try clear hcz8_5
   try clear hfz8_0
   try clear hfz8_1
   try clear hfz8_2
   try clear hfz8_3
   try clear hfz8_4
   try clear hfz8_5
   obtain ⟨kq, x19_3, rfl, HA, HJ3, HO_3, BK165, HB⟩ := hcut
   cases kq with
   | zero => exact absurd HA.out (by simp [hornbeamref21_Ready.j0])
   | succ kj3 =>
    have H := HA.out
    clear HA
    simp only [hornbeamref21_Ready.j0] at H
    have HC16 := aaM H
    clear H
    go_upto_if 19 with (fail)
    go_cut [3] (fun v3 wc => ∃ (kq : Nat) (x3_15 : List Int), Aside0 (hornbeamref21_Ready.j1 kq x3_15 a0_0 a0_1 a0_2 l0_3 l0_4 a0_5 = some r) ∧ Aside0 (kq ≤ kj3) ∧ Aside0 (Kd.R (Kd.int .i64) 3 wc w.heap.size (fun _ => True) v3 x3_15) ∧ Aside0 (wc.heap[gb165]? = some (.cells #[.int .i64 a0_0, .int .i64 a0_1, .int .i64 a0_2, (.slice A0_3 l0_3.length c0_3), (.slice A0_4 l0_4.length c0_4), .bool a0_5] 42 (0, 0))) ∧ Aside0 (Below w.heap.size w wc))
    case first =>
     have H := HC16.out
     clear HC16
     by_cases c17 : x19_3 = true
     ·subst c17
      have H1 : (if y166.length < 17592186044416 then (hornbeamref21_Ready.j1 kj3 (y166 ++ [0]) a0_0 a0_1 a0_2 l0_3 l0_4 a0_5) else (none)) = some r := by rw [if_pos rfl] at H; exact H
      clear H
      have H := H1
      clear H1
      by_cases c18 : y166.length < 17592186044416
      ·rw [if_pos c18] at H
       have LMc18 := aaM c18
       clear c18
       obtain ⟨y171, hy171⟩ : ∃ y_ : List Int, y_ = (y166 ++ [0]) := ⟨_, rfl⟩
       replace H : (hornbeamref21_Ready.j1 kj3 y171 a0_0 a0_1 a0_2 l0_3 l0_4 a0_5) = some r := by first | (rw [hy171]; with_reducible exact H) | (have H2_ := (Option.bind_some _ _).symm.trans H; rw [hy171]; with_reducible exact H2_) | (have H2_ := (Option.bind_some _ _).symm.trans H; with_reducible exact H2_) | with_reducible exact H | (rw [hy171]; exact H) | exact H
       have Ny171 := aaM hy171
       clear hy171
       have H' := aaM H
       clear H
       go_wp2_with (first | ((with_reducible refine gate_builtin (b := .append) (xs := #[.tmp 20, .tmp 21]) rfl ?_); at_builtin; refine Kd.R_append (Kd.int .i64) (w0 := w) w.heap.size rfl (.tmp 20) (.tmp 21) 38 3 (.int .i64 0) 8 rfl Try.underlying38 info3 rfl (by decide) (by omega) v167 y166 0 [.int .i64 0] (fun _ => True) (fun _ => False) rfl rfl ?aP (fun _ hk => hk.elim) ?aF ?aO ?aB ?aS ?aL ?_; (case aP => exact rfl); (case aB => exact (by repeat (first | (with_reducible first | exact HB.out | apply lA | apply lN | apply lD | refine lS ?_ GE165.out) | exact HB.out))); (case aF => exact (fun _ _ => trivial)); (case aO => exact (by (with_reducible repeat (first | apply rrA | apply rrN | apply rrD)); exact HO_3.out)); (case aS => exact (lZ (by repeat (first | (with_reducible first | exact HB.out | apply lA | apply lN | apply lD | refine lS ?_ GE165.out) | exact HB.out)))); (case aL => have := LMc18.out; omega); intro v172 w19 ho hb hg hat; rw [← Ny171.out] at ho; have n0_ := aaM (blk_grown (g := gb165) (by (with_reducible repeat (first | refine bN ?_ _ | refine bD ?_ | refine bA ?_ _)); exact BK165.out) hg (Kd.R_ne HO_3.out BK165.out (by decide))); have n1_ := aaM (hb); have n2_ := aaM (ho); clear BK165; clear HB; clear HO_3; have BK165 := n0_; have HB := n1_; have HO173 := n2_; clear n0_ n1_ n2_; clear ho hb hg hat))
       go_meet
       case rel => exact ⟨_, (y171), H', ⟨by have := HJ3.out; first | omega | exact Nat.le_refl _⟩, ⟨by (with_reducible repeat (first | apply rrA | apply rrN | apply rrD)); exact HO173.out⟩, ⟨by (with_reducible repeat (first | refine bN ?_ _ | refine bD ?_ | refine bA ?_ _)); exact BK165.out⟩, ⟨by repeat (first | (with_reducible first | exact HB.out | apply lA | apply lN | apply lD | refine lS ?_ GE165.out) | exact HB.out)⟩⟩
      ·rw [if_neg c18] at H
       exact absurd H (by simp)
     ·replace c17 := Bool.eq_false_iff.mpr c17
      subst c17
      have H1 : (hornbeamref21_Ready.j1 kj3 y166 a0_0 a0_1 a0_2 l0_3 l0_4 a0_5) = some r := by rw [if_neg (show ¬ (false = true) by decide)] at H; exact H
      clear H
      have H := H1
      clear H1
      have H' := aaM H
      clear H
      go_wp2
      go_meet
      case rel => exact ⟨_, (y166), H', ⟨by have := HJ3.out; first | omega | exact Nat.le_refl _⟩, ⟨by (with_reducible repeat (first | apply rrA | apply rrN | apply rrD)); exact HO_3.out⟩, ⟨by (with_reducible repeat (first | refine bN ?_ _ | refine bD ?_ | refine bA ?_ _)); exact BK165.out⟩, ⟨by repeat (first | (with_reducible first | exact HB.out | apply lA | apply lN | apply lD | refine lS ?_ GE165.out) | exact HB.out)⟩⟩
    case rest =>
     clear HC16
     try clear c1
     try clear p2
     try clear c3
     try clear c4
     try clear c6
     try clear c11
     try clear c11b0
     try clear c11b1
     try clear c17
     try clear c18
     try clear hcz8_0
     try clear hcz8_1
     try clear hcz8_2
     try clear hcz8_3
     try clear hcz8_4
     try clear hcz8_5
     try clear hfz8_0
     try clear hfz8_1
     try clear hfz8_2
     try clear hfz8_3
     try clear hfz8_4
     try clear hfz8_5
     try clear p2
     obtain ⟨kq, x3_15, HA, HJ15, HO_3, BK165, HB⟩ := hcut
     cases kq with
     | zero => exact absurd HA.out (by simp [hornbeamref21_Ready.j1])
     | succ kj15 =>
      have H := HA.out
      clear HA
      simp only [hornbeamref21_Ready.j1] at H
      have H' := aaM H
      clear H
      go_wp2
      go_loopg [3, 4] kj15 (fun kq v3 v4 w' => ∃ (x3_3 : List Int) (x4_3 : Int), v4 = .int .i64 x4_3 ∧ Aside0 (hornbeamref21_Ready.l0 kq x3_3 x4_3 a0_0 a0_1 a0_2 l0_3 l0_4 a0_5 = some r) ∧ Aside0 (kq ≤ kj15) ∧ Aside0 (Kd.R (Kd.int .i64) 3 w' w.heap.size (fun _ => True) v3 x3_3) ∧ Aside0 (w'.heap[gb165]? = some (.cells #[.int .i64 a0_0, .int .i64 a0_1, .int .i64 a0_2, (.slice A0_3 l0_3.length c0_3), (.slice A0_4 l0_4.length c0_4), .bool a0_5] 42 (0, 0))) ∧ Aside0 (Below w.heap.size w w'))
      case atStart => exact ⟨(x3_15), (0), (by first | rfl | (simp; done) | (simp [*]; done)), H', ⟨Nat.le_refl _⟩, ⟨by (with_reducible repeat (first | apply rrA | apply rrN | apply rrD)); exact HO_3.out⟩, ⟨by (with_reducible repeat (first | refine bN ?_ _ | refine bD ?_ | refine bA ?_ _)); exact BK165.out⟩, ⟨by repeat (first | (with_reducible first | exact HB.out | apply lA | apply lN | apply lD | refine lS ?_ GE165.out) | exact HB.out)⟩⟩
      case round =>
       clear H'
       try clear c1
       try clear p2
       try clear c3
       try clear c4
       try clear c6
       try clear c11
       try clear c11b0
       try clear c11b1
       try clear c17
       try clear c18
       try clear hcz8_0
       try clear hcz8_1
       try clear hcz8_2
       try clear hcz8_3
       try clear hcz8_4
       try clear hcz8_5
       try clear hfz8_0
       try clear hfz8_1
       try clear hfz8_2
       try clear hfz8_3
       try clear hfz8_4
       try clear hfz8_5
       try clear p2
       obtain ⟨x3_3, x4_3, rfl, HA, HK3, HO_3, BK165, HB⟩ := hrel
       cases gk with
       | zero => exact absurd HA.out (by simp [hornbeamref21_Ready.l0])
       | succ k3 =>
        have H := HA.out
        clear HA
        simp only [hornbeamref21_Ready.l0] at H
        by_cases c20 : x4_3 < a0_1
        ·rw [if_pos c20] at H
         have c20b0 : decide (x4_3 < a0_1) = true := decide_eq_true c20
         clear c20
         by_cases c21 : 0 ≤ x4_3
         ·rw [if_pos c21] at H
          have c21b0 : decide (0 ≤ x4_3) = true := decide_eq_true c21
          clear c21
          by_cases c22 : x4_3 < (l0_3.length : Int)
          ·rw [if_pos c22] at H
           have c22b0 : decide (x4_3 < (l0_3.length : Int)) = true := decide_eq_true c22
           clear c22
           by_cases c23 : (rd l0_3 x4_3) > (-2)
           ·rw [if_pos c23] at H
            have c23b0 : decide ((-2) < (rd l0_3 x4_3)) = true := decide_eq_true c23
            clear c23
            by_cases c24 : x3_3.length < 17592186044416
            ·rw [if_pos c24] at H
             have LMc24 := aaM c24
             clear c24
             obtain ⟨y175, hy175⟩ : ∃ y_ : List Int, y_ = (x3_3 ++ [wrap64 (x4_3 + 1)]) := ⟨_, rfl⟩
             replace H : (hornbeamref21_Ready.l0 k3 y175 (wrap64 (x4_3 + 1)) a0_0 a0_1 a0_2 l0_3 l0_4 a0_5) = some r := by first | (rw [hy175]; with_reducible exact H) | (have H2_ := (Option.bind_some _ _).symm.trans H; rw [hy175]; with_reducible exact H2_) | (have H2_ := (Option.bind_some _ _).symm.trans H; with_reducible exact H2_) | with_reducible exact H | (rw [hy175]; exact H) | exact H
             have Ny175 := aaM hy175
             clear hy175
             have H' := aaM H
             clear H
             have hcz25_0 : wr.cell? ⟨gb165, 0, none⟩ = some (.int .i64 a0_0) := (bC BK165.out 0).trans rfl
             have hcz25_1 : wr.cell? ⟨gb165, 1, none⟩ = some (.int .i64 a0_1) := (bC BK165.out 1).trans rfl
             have hcz25_2 : wr.cell? ⟨gb165, 2, none⟩ = some (.int .i64 a0_2) := (bC BK165.out 2).trans rfl
             have hcz25_3 : wr.cell? ⟨gb165, 3, none⟩ = some (.slice A0_3 l0_3.length c0_3) := (bC BK165.out 3).trans rfl
             have hcz25_4 : wr.cell? ⟨gb165, 4, none⟩ = some (.slice A0_4 l0_4.length c0_4) := (bC BK165.out 4).trans rfl
             have hcz25_5 : wr.cell? ⟨gb165, 5, none⟩ = some (.bool a0_5) := (bC BK165.out 5).trans rfl
             have hfz25_0 := bF BK165.out 0
             have hfz25_1 := bF BK165.out 1
             have hfz25_2 := bF BK165.out 2
             have hfz25_3 := bF BK165.out 3
             have hfz25_4 := bF BK165.out 4
             have hfz25_5 := bF BK165.out 5
             have p174 : 0 ≤ (x4_3 : Int) := of_decide_eq_true (by first | (with_reducible assumption) | assumption)
             have q174 : x4_3 < (l0_3.length : Int) := of_decide_eq_true (by first | (with_reducible assumption) | assumption)
             obtain ⟨ad174, e174, hx174_0⟩ := Kd.at_int HR0_3.out x4_3 p174 q174
             cases e174
             replace hx174_0 := (HB.out.cell (World.block_lt_of_cell? w _ hx174_0)).trans hx174_0
             replace p174 := eq_true p174
             replace q174 := eq_true q174
             go_wp2_with (first | ((with_reducible refine gate_builtin (b := .append) (xs := #[.tmp 35, .tmp 38]) rfl ?_); at_builtin; refine Kd.R_append (Kd.int .i64) (w0 := w) w.heap.size rfl (.tmp 35) (.tmp 38) 38 3 (.int .i64 0) 8 rfl Try.underlying38 info3 rfl (by decide) (by omega) u3 x3_3 (wrap64 (x4_3 + 1)) [.int .i64 (wrap64 (x4_3 + 1))] (fun _ => True) (fun _ => False) rfl rfl ?aP (fun _ hk => hk.elim) ?aF ?aO ?aB ?aS ?aL ?_; (case aP => exact rfl); (case aB => exact (by repeat (first | (with_reducible first | exact HB.out | apply lA | apply lN | apply lD | refine lS ?_ GE165.out) | exact HB.out))); (case aF => exact (fun _ _ => trivial)); (case aO => exact (by (with_reducible repeat (first | apply rrA | apply rrN | apply rrD)); exact HO_3.out)); (case aS => exact (lZ (by repeat (first | (with_reducible first | exact HB.out | apply lA | apply lN | apply lD | refine lS ?_ GE165.out) | exact HB.out)))); (case aL => have := LMc24.out; omega); intro v176 w26 ho hb hg hat; rw [← Ny175.out] at ho; have n0_ := aaM (blk_grown (g := gb165) (by (with_reducible repeat (first | refine bN ?_ _ | refine bD ?_ | refine bA ?_ _)); exact BK165.out) hg (Kd.R_ne HO_3.out BK165.out (by decide))); have n1_ := aaM (hb); have n2_ := aaM (ho); clear BK165; clear HB; clear HO_3; have BK165 := n0_; have HB := n1_; have HO177 := n2_; clear n0_ n1_ n2_; clear ho hb hg hat))
             go_roundg k3
             case measure => have := HJ3.out; have := HJ15.out; have := HK3.out; omega
             case rel => exact ⟨(y175), (wrap64 (x4_3 + 1)), (by first | rfl | (simp; done) | (simp [*]; done)), H', ⟨by have := HJ3.out; have := HJ15.out; have := HK3.out; omega⟩, ⟨by (with_reducible repeat (first | apply rrA | apply rrN | apply rrD)); exact HO177.out⟩, ⟨by (with_reducible repeat (first | refine bN ?_ _ | refine bD ?_ | refine bA ?_ _)); exact BK165.out⟩, ⟨by repeat (first | (with_reducible first | exact HB.out | apply lA | apply lN | apply lD | refine lS ?_ GE165.out) | exact HB.out)⟩⟩
            ·rw [if_neg c24] at H
             exact absurd H (by simp)
           ·rw [if_neg c23] at H
            have c23b0 : decide ((-2) < (rd l0_3 x4_3)) = false := decide_eq_false c23
            clear c23
            have H' := aaM H
            clear H
            have hcz27_0 : wr.cell? ⟨gb165, 0, none⟩ = some (.int .i64 a0_0) := (bC BK165.out 0).trans rfl
            have hcz27_1 : wr.cell? ⟨gb165, 1, none⟩ = some (.int .i64 a0_1) := (bC BK165.out 1).trans rfl
            have hcz27_2 : wr.cell? ⟨gb165, 2, none⟩ = some (.int .i64 a0_2) := (bC BK165.out 2).trans rfl
            have hcz27_3 : wr.cell? ⟨gb165, 3, none⟩ = some (.slice A0_3 l0_3.length c0_3) := (bC BK165.out 3).trans rfl
            have hcz27_4 : wr.cell? ⟨gb165, 4, none⟩ = some (.slice A0_4 l0_4.length c0_4) := (bC BK165.out 4).trans rfl
            have hcz27_5 : wr.cell? ⟨gb165, 5, none⟩ = some (.bool a0_5) := (bC BK165.out 5).trans rfl
            have hfz27_0 := bF BK165.out 0
            have hfz27_1 := bF BK165.out 1
            have hfz27_2 := bF BK165.out 2
            have hfz27_3 := bF BK165.out 3
            have hfz27_4 := bF BK165.out 4
            have hfz27_5 := bF BK165.out 5
            have p174 : 0 ≤ (x4_3 : Int) := of_decide_eq_true (by first | (with_reducible assumption) | assumption)
            have q174 : x4_3 < (l0_3.length : Int) := of_decide_eq_true (by first | (with_reducible assumption) | assumption)
            obtain ⟨ad174, e174, hx174_0⟩ := Kd.at_int HR0_3.out x4_3 p174 q174
            cases e174
            replace hx174_0 := (HB.out.cell (World.block_lt_of_cell? w _ hx174_0)).trans hx174_0
            replace p174 := eq_true p174
            replace q174 := eq_true q174
            go_wp2
            go_roundg k3
            case measure => have := HJ3.out; have := HJ15.out; have := HK3.out; omega
            case rel => exact ⟨(x3_3), (wrap64 (x4_3 + 1)), (by first | rfl | (simp; done) | (simp [*]; done)), H', ⟨by have := HJ3.out; have := HJ15.out; have := HK3.out; omega⟩, ⟨by (with_reducible repeat (first | apply rrA | apply rrN | apply rrD)); exact HO_3.out⟩, ⟨by (with_reducible repeat (first | refine bN ?_ _ | refine bD ?_ | refine bA ?_ _)); exact BK165.out⟩, ⟨by repeat (first | (with_reducible first | exact HB.out | apply lA | apply lN | apply lD | refine lS ?_ GE165.out) | exact HB.out)⟩⟩
          ·rw [if_neg c22] at H
           exact absurd H (by simp)
         ·rw [if_neg c21] at H
          exact absurd H (by simp)
        ·rw [if_neg c20] at H
         have c20b0 : decide (x4_3 < a0_1) = false := decide_eq_false c20
         clear c20
         obtain rfl := Option.some.inj H
         have hcz28_0 : wr.cell? ⟨gb165, 0, none⟩ = some (.int .i64 a0_0) := (bC BK165.out 0).trans rfl
         have hcz28_1 : wr.cell? ⟨gb165, 1, none⟩ = some (.int .i64 a0_1) := (bC BK165.out 1).trans rfl
         have hcz28_2 : wr.cell? ⟨gb165, 2, none⟩ = some (.int .i64 a0_2) := (bC BK165.out 2).trans rfl
         have hcz28_3 : wr.cell? ⟨gb165, 3, none⟩ = some (.slice A0_3 l0_3.length c0_3) := (bC BK165.out 3).trans rfl
         have hcz28_4 : wr.cell? ⟨gb165, 4, none⟩ = some (.slice A0_4 l0_4.length c0_4) := (bC BK165.out 4).trans rfl
         have hcz28_5 : wr.cell? ⟨gb165, 5, none⟩ = some (.bool a0_5) := (bC BK165.out 5).trans rfl
         have hfz28_0 := bF BK165.out 0
         have hfz28_1 := bF BK165.out 1
         have hfz28_2 := bF BK165.out 2
         have hfz28_3 := bF BK165.out 3
         have hfz28_4 := bF BK165.out 4
         have hfz28_5 := bF BK165.out 5
         go_wp2
         go_ret
         exact ⟨_, by first | rfl | (simp [errW_none, errW_some] <;> rfl) | (simp [*, errW_none, errW_some] <;> rfl), by (with_reducible repeat (first | apply rrA | apply rrN | apply rrD)); exact HO_3.out, by repeat (first | (with_reducible first | exact HB.out | apply lA | apply lN | apply lD | refine lS ?_ GE165.out) | exact HB.out)⟩
 ·replace c3 := Bool.eq_false_iff.mpr c3
  subst c3
  have H1 : (some y166) = some r := by rw [if_neg (show ¬ (false = true) by decide)] at H; exact H
  clear H
  have H := H1
  clear H1
  obtain rfl := Option.some.inj H
  go_enter Try.func40, Try.ntmps40
  go_wp2_with (first | ((with_reducible refine gate_dst (N := 1) rfl ?_); refine box_event ?hg (N := 1) ?hd (cs := #[.int .i64 a0_0, .int .i64 a0_1, .int .i64 a0_2, .slice A0_3 l0_3.length c0_3, .slice A0_4 l0_4.length c0_4, .bool a0_5]) (t := 42) ?hr ?_; (case hd => rfl); (case hg => rfl); (case hr => first | (go_simp; done) | (go_simp; rfl)); intro gb165 hg w29 hbox hb; have n0_ := aaM (lP (by repeat (first | (with_reducible first | exact HB.out | apply lA | apply lN | apply lD) | exact HB.out)) hb); have n1_ := aaM (hbox); have n2_ := aaM ((by rw [hg]; exact (lZ (by repeat (first | (with_reducible first | exact HB.out | apply lA | apply lN | apply lD) | exact HB.out))) : w.heap.size ≤ gb165)); have n3_ := aaM ((by rw [hg]; exact (lZ (by repeat (first | (with_reducible first | exact HB.out | apply lA | apply lN | apply lD) | exact HB.out))) : w.heap.size ≤ gb165)); clear HB; have HB := n0_; have BK165 := n1_; have GW165 := n2_; have GE165 := n3_; clear n0_ n1_ n2_ n3_; clear hb hbox hg) | ((with_reducible refine gate_dst (N := 5) rfl ?_); refine Kd.R_lit (Kd.int .i64) _ 3 ?hg (N := 5) ?hd (xs := ([] : List Int)) (inner := []) (ok := fun _ => True) (okp := fun _ => True) ?hr ?hp (fun _ hk => hk) trivial (Below.refl _ _) (Nat.le_refl _) (by simp) ?_; (case hd => rfl); (case hg => rfl); (case hr => first | (go_simp; done) | (go_simp; rfl)); (case hp => exact (Reps.none _ _)); intro v167 w30 ho31 hb hg_ hnew_; clear hg_ hnew_; (first | rw [← Ny166.out] at ho31 | (simp only [Int.reduceToNat] at ho31; rw [← Ny166.out] at ho31)); have n0_ := aaM (Kd.R_lower ho31 (lZ (by repeat (first | (with_reducible first | exact HB.out | apply lA | apply lN | apply lD | refine lS ?_ GE165.out) | exact HB.out)))); have n1_ := aaM (bB (g := gb165) (o := .cells #[.int .i64 a0_0, .int .i64 a0_1, .int .i64 a0_2, .slice A0_3 l0_3.length c0_3, .slice A0_4 l0_4.length c0_4, .bool a0_5] 42 (0, 0)) (by (with_reducible repeat (first | refine bN ?_ _ | refine bD ?_ | refine bA ?_ _)); exact BK165.out) hb); have n2_ := aaM (lP (by repeat (first | (with_reducible first | exact HB.out | apply lA | apply lN | apply lD | refine lS ?_ GE165.out) | exact HB.out)) hb); clear BK165; clear HB; have HO168 := n0_; have BK165 := n1_; have HB := n2_; clear n0_ n1_ n2_; clear hb ho31; have hcz32_0 : w30.cell? ⟨gb165, 0, none⟩ = some (.int .i64 a0_0) := (bC BK165.out 0).trans rfl; have hcz32_1 : w30.cell? ⟨gb165, 1, none⟩ = some (.int .i64 a0_1) := (bC BK165.out 1).trans rfl; have hcz32_2 : w30.cell? ⟨gb165, 2, none⟩ = some (.int .i64 a0_2) := (bC BK165.out 2).trans rfl; have hcz32_3 : w30.cell? ⟨gb165, 3, none⟩ = some (.slice A0_3 l0_3.length c0_3) := (bC BK165.out 3).trans rfl; have hcz32_4 : w30.cell? ⟨gb165, 4, none⟩ = some (.slice A0_4 l0_4.length c0_4) := (bC BK165.out 4).trans rfl; have hcz32_5 : w30.cell? ⟨gb165, 5, none⟩ = some (.bool a0_5) := (bC BK165.out 5).trans rfl; have hfz32_0 := bF BK165.out 0; have hfz32_1 := bF BK165.out 1; have hfz32_2 := bF BK165.out 2; have hfz32_3 := bF BK165.out 3; have hfz32_4 := bF BK165.out 4; have hfz32_5 := bF BK165.out 5) | ((with_reducible refine gate_callee (f := 38) rfl ?_); refine goesL_ (some 7) rfl rfl Try.func38 (by kernel_rfl) rfl #[.agg #[.int .i64 a0_0, .int .i64 a0_1, .int .i64 a0_2, .slice A0_3 l0_3.length c0_3, .slice A0_4 l0_4.length c0_4, .bool a0_5]] rfl (by (try simp only [List.map_toArray, List.map_cons, List.map_nil]); first | done | rfl | (simp only [List.length_drop, List.length_take]; rfl)) ?_; (with_reducible refine (hornbeamref21_May.calls k a0_0 a0_1 a0_2 _ _ l0_3 _ _ l0_4 a0_5 false _ ?side1 ?side2 ?side3 ?side4 A2.out).mono ?_); (case side1 => repeat (first | exact (ccB HR0_3.out HB.out) | (with_reducible refine ccA ?_ _) | (with_reducible refine ccN ?_ _) | (with_reducible refine ccD ?_))); (case side2 => exact HC0_3.out); (case side3 => repeat (first | exact (ccB HR0_4.out HB.out) | (with_reducible refine ccA ?_ _) | (with_reducible refine ccN ?_ _) | (with_reducible refine ccD ?_))); (case side4 => exact HC0_4.out); rintro e w33 ⟨rfl, hb⟩; refine ⟨_, rfl, ?_⟩; have n0_ := aaM (rrB (by (with_reducible repeat (first | apply rrA | apply rrN | apply rrD)); exact HO168.out) hb); have n1_ := aaM (bB (g := gb165) (o := .cells #[.int .i64 a0_0, .int .i64 a0_1, .int .i64 a0_2, .slice A0_3 l0_3.length c0_3, .slice A0_4 l0_4.length c0_4, .bool a0_5] 42 (0, 0)) (by (with_reducible repeat (first | refine bN ?_ _ | refine bD ?_ | refine bA ?_ _)); exact BK165.out) hb); have n2_ := aaM (lP (by repeat (first | (with_reducible first | exact HB.out | apply lA | apply lN | apply lD | refine lS ?_ GE165.out) | exact HB.out)) hb); clear HO168; clear BK165; clear HB; have HO168 := n0_; have BK165 := n1_; have HB := n2_; clear n0_ n1_ n2_; (try clear hb); (try clear hb2); (try clear hk); (try clear hi)))
  go_ret
  exact ⟨_, by first | rfl | (simp [errW_none, errW_some] <;> rfl) | (simp [*, errW_none, errW_some] <;> rfl), by (with_reducible repeat (first | apply rrA | apply rrN | apply rrD)); exact HO168.out, by repeat (first | (with_reducible first | exact HB.out | apply lA | apply lN | apply lD | refine lS ?_ GE165.out) | exact HB.out)⟩

end Go.Proofs.Ytoonddgldmfleaa.QSchedPlays
