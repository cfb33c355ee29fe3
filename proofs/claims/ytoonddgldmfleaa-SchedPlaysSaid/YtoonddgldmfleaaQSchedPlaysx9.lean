-- Written by a program of this session (wip/tools/mkprint.py over the kit's print); Lean checks it.
import Derived.Test.YtoonddgldmfleaaQSchedPlaysx0
import Derived.Test.YtoonddgldmfleaaQSchedPlaysx3
import Derived.Test.YtoonddgldmfleaaQSchedPlaysx6
import Derived.Test.YtoonddgldmfleaaQSchedPlaysx7
import Derived.Test.YtoonddgldmfleaaQSchedPlaysx8
namespace Go.Proofs.Ytoonddgldmfleaa.QSchedPlays
open Go.RowKit Go.Proofs.YtoonddgldmfleaaW.PrintWords Go.Proofs.YtoonddgldmfleaaW.PrintLast Go.Proofs.YtoonddgldmfleaaW.PrintMore
attribute [local go_sem] max2_int min2_int max_two min_two max_three min_three max_four min_four   -- for this text's walks alone
set_option linter.unusedVariables false
set_option linter.unusedSimpArgs false

/-! ### hornbeamref21_Play: function 23 -/
mutual
def hornbeamref21_Play.l0 : Nat → List Int → List (S52) → Int → Int → Int → List Int → List Bool → Bool → Option ((List (S52)) × Int × Int × Int × List Int × List Bool × Bool × Int)
 | 0, _, _, _, _, _, _, _, _ => none
 | k + 1, x2, x11, x224000, x224001, x224002, x224003, x224004, x224005 => (hornbeamref21_Ready.f k x224000 x224001 x224002 x224003 x224004 x224005).bind fun t227 => (if (t227.length : Int) = 0 then (some (x11, x224000, x224001, x224002, x224003, x224004, x224005, 0)) else (if (x11.length : Int) < (x2.length : Int) then (if 0 ≤ (x11.length : Int) then (hornbeamref21_Play.j1 k x2 x11 t227 0 (x11.length : Int) (decide ((rd x2 (x11.length : Int)) ≥ 0)) x224000 x224001 x224002 x224003 x224004 x224005) else (none)) else (hornbeamref21_Play.j1 k x2 x11 t227 0 (x11.length : Int) false x224000 x224001 x224002 x224003 x224004 x224005)))
def hornbeamref21_Play.j1 : Nat → List Int → List (S52) → List Int → Int → Int → Bool → Int → Int → Int → List Int → List Bool → Bool → Option ((List (S52)) × Int × Int × Int × List Int × List Bool × Bool × Int)
 | 0, _, _, _, _, _, _, _, _, _, _, _, _ => none
 | k + 1, x2, x11, x12, x13, x14, x48, x224000, x224001, x224002, x224003, x224004, x224005 => if x48 = true then (if 0 ≤ x14 then (if x14 < (x2.length : Int) then (if (x12.length : Int) = 0 then (none) else (hornbeamref21_Play.j2 k x2 x11 x12 (wrap64 ((rd x2 x14) - (wrap64 ((wrap64 (Int.tdiv (rd x2 x14) (x12.length : Int))) * (x12.length : Int))))) x224000 x224001 x224002 x224003 x224004 x224005)) else (none)) else (none)) else (hornbeamref21_Play.j2 k x2 x11 x12 x13 x224000 x224001 x224002 x224003 x224004 x224005)
def hornbeamref21_Play.j2 : Nat → List Int → List (S52) → List Int → Int → Int → Int → Int → List Int → List Bool → Bool → Option ((List (S52)) × Int × Int × Int × List Int × List Bool × Bool × Int)
 | 0, _, _, _, _, _, _, _, _, _, _ => none
 | k + 1, x2, x11, x12, x13, x224000, x224001, x224002, x224003, x224004, x224005 => if 0 ≤ x13 then (if x13 < (x12.length : Int) then ((hornbeamref21_Step.f k x224000 x224001 x224002 x224003 x224004 x224005 (rd x12 x13)).bind fun bt234 => (if x11.length < 5864062014805 then (hornbeamref21_Play.l0 k x2 (x11 ++ [(⟨bt234.2.2.2.2.2.2.1, bt234.2.2.2.2.2.2.2.1, bt234.2.2.2.2.2.2.2.2.1⟩ : S52)]) bt234.1 bt234.2.1 bt234.2.2.1 bt234.2.2.2.1 bt234.2.2.2.2.1 bt234.2.2.2.2.2.1) else (none))) else (none)) else (none)
end
def hornbeamref21_Play.f (k : Nat) (a0 : Int) (a1 : Int) (l2 : List Int) : Option ((List (S52)) × Int × Int × Int × List Int × List Bool × Bool × Int) := (hornbeamref21_New.f k a0 a1).bind fun bt212 => (if bt212.2.2.2.2.2.2 = 0 then (hornbeamref21_Play.l0 k l2 (([] : List (S52))) bt212.1 bt212.2.1 bt212.2.2.1 bt212.2.2.2.1 bt212.2.2.2.2.1 bt212.2.2.2.2.2.1) else (some (([] : List (S52)), 0, 0, 0, ([] : List Int), ([] : List Bool), false, bt212.2.2.2.2.2.2)))
theorem hornbeamref21_Play.mono_l : ∀ k, (∀ y0 y1 y2 y3 y4 y5 y6 y7, LeO (hornbeamref21_Play.l0 k y0 y1 y2 y3 y4 y5 y6 y7) (hornbeamref21_Play.l0 (k + 1) y0 y1 y2 y3 y4 y5 y6 y7)) ∧ (∀ y0 y1 y2 y3 y4 y5 y6 y7 y8 y9 y10 y11, LeO (hornbeamref21_Play.j1 k y0 y1 y2 y3 y4 y5 y6 y7 y8 y9 y10 y11) (hornbeamref21_Play.j1 (k + 1) y0 y1 y2 y3 y4 y5 y6 y7 y8 y9 y10 y11)) ∧ (∀ y0 y1 y2 y3 y4 y5 y6 y7 y8 y9, LeO (hornbeamref21_Play.j2 k y0 y1 y2 y3 y4 y5 y6 y7 y8 y9) (hornbeamref21_Play.j2 (k + 1) y0 y1 y2 y3 y4 y5 y6 y7 y8 y9))
 | 0 => ⟨fun _ _ _ _ _ _ _ _ r h => by simp [hornbeamref21_Play.l0] at h, fun _ _ _ _ _ _ _ _ _ _ _ _ r h => by simp [hornbeamref21_Play.j1] at h, fun _ _ _ _ _ _ _ _ _ _ r h => by simp [hornbeamref21_Play.j2] at h⟩
 | k + 1 => by
  obtain ⟨ih0, ih1, ih2⟩ := hornbeamref21_Play.mono_l k
  refine ⟨?_, ?_, ?_⟩
  ·intro y0 y1 y2 y3 y4 y5 y6 y7
   unfold hornbeamref21_Play.l0
   repeat' first
   | (with_reducible exact ih0 _ _ _ _ _ _ _ _)
   | (with_reducible exact ih1 _ _ _ _ _ _ _ _ _ _ _ _)
   | (with_reducible exact ih2 _ _ _ _ _ _ _ _ _ _)
   | (with_reducible exact hornbeamref21_New.mono _ _ _)
   | (with_reducible exact hornbeamref21_Ready.mono _ _ _ _ _ _ _)
   | (with_reducible exact hornbeamref21_Step.mono _ _ _ _ _ _ _ _)
   | (with_reducible exact LeO.refl _)
   | (with_reducible exact LeO.none _)
   | (with_reducible refine LeO.ite ?_ ?_)
   | (with_reducible refine LeO.bind ?_ (fun _ => ?_))
   | exact ih0 _ _ _ _ _ _ _ _
   | exact ih1 _ _ _ _ _ _ _ _ _ _ _ _
   | exact ih2 _ _ _ _ _ _ _ _ _ _
   | exact hornbeamref21_New.mono _ _ _
   | exact hornbeamref21_Ready.mono _ _ _ _ _ _ _
   | exact hornbeamref21_Step.mono _ _ _ _ _ _ _ _
   | exact LeO.none _
   | refine LeO.ite ?_ ?_
   | refine LeO.bind ?_ (fun _ => ?_)
  ·intro y0 y1 y2 y3 y4 y5 y6 y7 y8 y9 y10 y11
   unfold hornbeamref21_Play.j1
   repeat' first
   | (with_reducible exact ih0 _ _ _ _ _ _ _ _)
   | (with_reducible exact ih1 _ _ _ _ _ _ _ _ _ _ _ _)
   | (with_reducible exact ih2 _ _ _ _ _ _ _ _ _ _)
   | (with_reducible exact hornbeamref21_New.mono _ _ _)
   | (with_reducible exact hornbeamref21_Ready.mono _ _ _ _ _ _ _)
   | (with_reducible exact hornbeamref21_Step.mono _ _ _ _ _ _ _ _)
   | (with_reducible exact LeO.refl _)
   | (with_reducible exact LeO.none _)
   | (with_reducible refine LeO.ite ?_ ?_)
   | (with_reducible refine LeO.bind ?_ (fun _ => ?_))
   | exact ih0 _ _ _ _ _ _ _ _
   | exact ih1 _ _ _ _ _ _ _ _ _ _ _ _
   | exact ih2 _ _ _ _ _ _ _ _ _ _
   | exact hornbeamref21_New.mono _ _ _
   | exact hornbeamref21_Ready.mono _ _ _ _ _ _ _
   | exact hornbeamref21_Step.mono _ _ _ _ _ _ _ _
   | exact LeO.none _
   | refine LeO.ite ?_ ?_
   | refine LeO.bind ?_ (fun _ => ?_)
  ·intro y0 y1 y2 y3 y4 y5 y6 y7 y8 y9
   unfold hornbeamref21_Play.j2
   repeat' first
   | (with_reducible exact ih0 _ _ _ _ _ _ _ _)
   | (with_reducible exact ih1 _ _ _ _ _ _ _ _ _ _ _ _)
   | (with_reducible exact ih2 _ _ _ _ _ _ _ _ _ _)
   | (with_reducible exact hornbeamref21_New.mono _ _ _)
   | (with_reducible exact hornbeamref21_Ready.mono _ _ _ _ _ _ _)
   | (with_reducible exact hornbeamref21_Step.mono _ _ _ _ _ _ _ _)
   | (with_reducible exact LeO.refl _)
   | (with_reducible exact LeO.none _)
   | (with_reducible refine LeO.ite ?_ ?_)
   | (with_reducible refine LeO.bind ?_ (fun _ => ?_))
   | exact ih0 _ _ _ _ _ _ _ _
   | exact ih1 _ _ _ _ _ _ _ _ _ _ _ _
   | exact ih2 _ _ _ _ _ _ _ _ _ _
   | exact hornbeamref21_New.mono _ _ _
   | exact hornbeamref21_Ready.mono _ _ _ _ _ _ _
   | exact hornbeamref21_Step.mono _ _ _ _ _ _ _ _
   | exact LeO.none _
   | refine LeO.ite ?_ ?_
   | refine LeO.bind ?_ (fun _ => ?_)
theorem hornbeamref21_Play.mono : ∀ a0 a1 a2 k, LeO (hornbeamref21_Play.f k a0 a1 a2) (hornbeamref21_Play.f (k + 1) a0 a1 a2) := by
 intro a0 a1 a2 k
 obtain ⟨ih0, ih1, ih2⟩ := hornbeamref21_Play.mono_l k
 unfold hornbeamref21_Play.f
 repeat' first
   | (with_reducible exact ih0 _ _ _ _ _ _ _ _)
   | (with_reducible exact ih1 _ _ _ _ _ _ _ _ _ _ _ _)
   | (with_reducible exact ih2 _ _ _ _ _ _ _ _ _ _)
   | (with_reducible exact hornbeamref21_New.mono _ _ _)
   | (with_reducible exact hornbeamref21_Ready.mono _ _ _ _ _ _ _)
   | (with_reducible exact hornbeamref21_Step.mono _ _ _ _ _ _ _ _)
   | (with_reducible exact LeO.refl _)
   | (with_reducible exact LeO.none _)
   | (with_reducible refine LeO.ite ?_ ?_)
   | (with_reducible refine LeO.bind ?_ (fun _ => ?_))
   | exact ih0 _ _ _ _ _ _ _ _
   | exact ih1 _ _ _ _ _ _ _ _ _ _ _ _
   | exact ih2 _ _ _ _ _ _ _ _ _ _
   | exact hornbeamref21_New.mono _ _ _
   | exact hornbeamref21_Ready.mono _ _ _ _ _ _ _
   | exact hornbeamref21_Step.mono _ _ _ _ _ _ _ _
   | exact LeO.none _
   | refine LeO.ite ?_ ?_
   | refine LeO.bind ?_ (fun _ => ?_)
def hornbeamref21_Play.T11 : Bool × List (List Nat × List Nat) := (true, [([], []), ([], []), ([0, 1], [0, 1]), ([2], [2]), ([], []), ([], []), ([4, 5], [4, 5]), ([6], [6]), ([], []), ([8], [8]), ([7, 9], [7, 9]), ([], []), ([11], [11]), ([10, 12], [10, 12]), ([3, 13], [3, 13]), ([14, 0, 1, 2, 3, 4, 5, 6, 7, 8, 9, 10, 11, 12, 13, 14], [14])])
def hornbeamref21_Play.B11 : List Nat := [0, 0, 3, 7, 0, 0, 48, 112, 0, 256, 1008, 0, 2048, 8176, 16383, 32767]
theorem hornbeamref21_Play.tab11 : rtab .any (opsOf Try.f23 11) = hornbeamref21_Play.T11 := by kernel_rfl
theorem hornbeamref21_Play.bits11 : waitsOk hornbeamref21_Play.T11.2 hornbeamref21_Play.B11 = true := by kernel_rfl
def hornbeamref21_Play.T12 : Bool × List (List Nat × List Nat) := (true, [([], []), ([], []), ([], []), ([1, 2], [1, 2]), ([3], [3]), ([0, 4], [0, 4]), ([5], [5]), ([6], [6]), ([6], [6]), ([6], [6]), ([], []), ([], []), ([10, 7, 5, 0, 1, 2, 3, 4, 5, 6, 7, 10, 11], [7, 10]), ([11, 8, 12, 0, 1, 2, 3, 4, 5, 6, 7, 8, 10, 11, 12], [8, 11]), ([9, 13, 0, 1, 2, 3, 4, 5, 6, 7, 8, 9, 10, 11, 12, 13], [9])])
def hornbeamref21_Play.B12 : List Nat := [0, 0, 0, 6, 14, 31, 63, 127, 127, 127, 0, 0, 3327, 7679, 16383]
theorem hornbeamref21_Play.tab12 : rtab .any (opsOf Try.f23 12) = hornbeamref21_Play.T12 := by kernel_rfl
theorem hornbeamref21_Play.bits12 : waitsOk hornbeamref21_Play.T12.2 hornbeamref21_Play.B12 = true := by kernel_rfl
set_option maxHeartbeats 16000000 in
set_option maxRecDepth 100000 in
theorem hornbeamref21_Play.calls (k : Nat) (a0 : Int) (a1 : Int) (A2 : Option Addr) (c2 : Nat) (l2 : List Int) (r1 : List (S52)) (r2 : Int) (r3 : Int) (r4 : Int) (r5 : List Int) (r6 : List Bool) (r7 : Bool) (r8 : Int) (w : World) (hr2 : Kd.C (Kd.int .i64) w A2 l2.length l2) (hc2 : l2.length ≤ c2) (h : hornbeamref21_Play.f k a0 a1 l2 = some (r1, r2, r3, r4, r5, r6, r7, r8)) :
  Calls Try.prog 23 #[.int .i64 a0, .int .i64 a1, .slice A2 l2.length c2] w fun e w' => ∃ v0_ v4_ v5_ : Value, e = .returned (.tuple #[v0_, .agg #[.int .i64 r2, .int .i64 r3, .int .i64 r4, v4_, v5_, .bool r7], .int .i64 r8]) ∧ Kd.R k52 52 w' w.heap.size (fun _ => True) v0_ r1 ∧ Kd.R (Kd.int .i64) 3 w' w.heap.size (fun _ => True) v4_ r5 ∧ Kd.R Kd.bool 4 w' w.heap.size (fun _ => True) v5_ r6 ∧ Below w.heap.size w w' := by
 have hu42 := Try.underlying42
 have hu52 := Try.underlying52
 have HR2 := aaM hr2
 have HC2 := aaM hc2
 clear hr2 hc2
 have HB := aaM (Below.refl w.heap.size w)
 have H : ((hornbeamref21_New.f k a0 a1).bind fun bt212 => (if bt212.2.2.2.2.2.2 = 0 then (hornbeamref21_Play.l0 k l2 (([] : List (S52))) bt212.1 bt212.2.1 bt212.2.2.1 bt212.2.2.2.1 bt212.2.2.2.2.1 bt212.2.2.2.2.2.1) else (some (([] : List (S52)), 0, 0, 0, ([] : List Int), ([] : List Bool), false, bt212.2.2.2.2.2.2)))) = some (r1, r2, r3, r4, r5, r6, r7, r8) := h
 clear h
 replace H := ooB.mp H
 obtain ⟨⟨t212, t213, t214, t215, t218, t221, t222⟩, A40, H⟩ := H
 replace H : (if t222 = 0 then (hornbeamref21_Play.l0 k l2 (([] : List (S52))) t212 t213 t214 t215 t218 t221) else (some (([] : List (S52)), 0, 0, 0, ([] : List Int), ([] : List Bool), false, t222))) = some (r1, r2, r3, r4, r5, r6, r7, r8) := H
 have A4 := aaM A40
 clear A40
 by_cases c5 : t222 = 0
 ·rw [if_pos c5] at H
  have c5b0 : (t222 == 0) = true := beq_iff_eq.mpr c5
  have c5b1 : (t222 != 0) = false := bne_eq_false_iff_eq.mpr c5
  clear c5
  obtain ⟨y224, hy224⟩ : ∃ y_ : List (S52), y_ = (([] : List (S52))) := ⟨_, rfl⟩
  replace H : (hornbeamref21_Play.l0 k l2 y224 t212 t213 t214 t215 t218 t221) = some (r1, r2, r3, r4, r5, r6, r7, r8) := by first | (rw [hy224]; with_reducible exact H) | (have H2_ := (Option.bind_some _ _).symm.trans H; rw [hy224]; with_reducible exact H2_) | (have H2_ := (Option.bind_some _ _).symm.trans H; with_reducible exact H2_) | with_reducible exact H | (rw [hy224]; exact H) | exact H
  have Ny224 := aaM hy224
  clear hy224
  have H' := aaM H
  clear H
  go_enter Try.func23, Try.ntmps23
  go_wp2_with (first | ((with_reducible refine gate_dst (N := 7) rfl ?_); refine box_event ?hg (N := 7) ?hd (cs := #[.int .i64 0, .int .i64 0, .int .i64 0, .slice none 0 0, .slice none 0 0, .bool false]) (t := 42) ?hr ?_; (case hd => rfl); (case hg => rfl); (case hr => first | (go_simp; done) | (go_simp; rfl)); intro gb211 hg w6 hbox hb; have n0_ := aaM (lP (by repeat (first | (with_reducible first | exact HB.out | apply lA | apply lN | apply lD) | exact HB.out)) hb); have n1_ := aaM (hbox); have n2_ := aaM ((by rw [hg]; exact (lZ (by repeat (first | (with_reducible first | exact HB.out | apply lA | apply lN | apply lD) | exact HB.out))) : w.heap.size ≤ gb211)); have n3_ := aaM ((by rw [hg]; exact (lZ (by repeat (first | (with_reducible first | exact HB.out | apply lA | apply lN | apply lD) | exact HB.out))) : w.heap.size ≤ gb211)); clear HB; have HB := n0_; have BK211 := n1_; have GW211 := n2_; have GE211 := n3_; clear n0_ n1_ n2_ n3_; clear hb hbox hg) | ((with_reducible refine gate_callee (f := 55) rfl ?_); refine goesL_ (some 21) rfl rfl Try.func55 (by kernel_rfl) rfl #[.int .i64 a0, .int .i64 a1] rfl (by (try simp only [List.map_toArray, List.map_cons, List.map_nil]); first | done | rfl | (simp only [List.length_drop, List.length_take]; rfl)) ?_; (with_reducible refine (hornbeamref21_New.calls k a0 a1 t212 t213 t214 t215 t218 t221 t222 _ A4.out).mono ?_); rintro e w7 ⟨v216, v219, rfl, ho0, ho1, hb⟩; refine ⟨_, rfl, ?_⟩; have n0_ := aaM (Kd.R_lower ho0 (lZ (by repeat (first | (with_reducible first | exact HB.out | apply lA | apply lN | apply lD | refine lS ?_ GE211.out) | exact HB.out)))); have n1_ := aaM (Kd.R_lower ho1 (lZ (by repeat (first | (with_reducible first | exact HB.out | apply lA | apply lN | apply lD | refine lS ?_ GE211.out) | exact HB.out)))); have n2_ := aaM (bB (g := gb211) (o := .cells #[.int .i64 0, .int .i64 0, .int .i64 0, .slice none 0 0, .slice none 0 0, .bool false] 42 (0, 0)) (by (with_reducible repeat (first | refine bN ?_ _ | refine bD ?_ | refine bA ?_ _)); exact BK211.out) hb); have n3_ := aaM (lP (by repeat (first | (with_reducible first | exact HB.out | apply lA | apply lN | apply lD | refine lS ?_ GE211.out) | exact HB.out)) hb); clear BK211; clear HB; have HO217 := n0_; have HO220 := n1_; have BK211 := n2_; have HB := n3_; clear n0_ n1_ n2_ n3_; (try clear hb); (try clear hb2); (try clear hk); (try clear hi); (try clear ho0); (try clear ho1)) | ((with_reducible refine gate_dst (N := 9) rfl ?_); refine box_event ?hg (N := 9) ?hd (cs := #[.int .i64 0, .int .i64 0, .int .i64 0, .slice none 0 0, .slice none 0 0, .bool false]) (t := 42) ?hr ?_; (case hd => rfl); (case hg => rfl); (case hr => first | (go_simp; done) | (go_simp; rfl)); intro gb223 hg w8 hbox hb; have n0_ := aaM (rrB (by (with_reducible repeat (first | apply rrA | apply rrN | apply rrD)); exact HO217.out) hb); have n1_ := aaM (rrB (by (with_reducible repeat (first | apply rrA | apply rrN | apply rrD)); exact HO220.out) hb); have n2_ := aaM (bB (g := gb211) (o := .cells #[.int .i64 0, .int .i64 0, .int .i64 0, .slice none 0 0, .slice none 0 0, .bool false] 42 (0, 0)) (by (with_reducible repeat (first | refine bN ?_ _ | refine bD ?_ | refine bA ?_ _)); exact BK211.out) hb); have n3_ := aaM (lP (by repeat (first | (with_reducible first | exact HB.out | apply lA | apply lN | apply lD | refine lS ?_ GE211.out) | exact HB.out)) hb); have n4_ := aaM (hbox); have n5_ := aaM ((by rw [hg]; exact (lZ (by repeat (first | (with_reducible first | exact HB.out | apply lA | apply lN | apply lD | refine lS ?_ GE211.out) | exact HB.out))) : w.heap.size ≤ gb223)); have n6_ := aaM ((by rw [hg]; exact (lZ (by repeat (first | (with_reducible first | exact HB.out | apply lA | apply lN | apply lD | refine lS ?_ GE211.out) | exact HB.out))) : w.heap.size ≤ gb223)); have n7_ := aaM ((by rw [hg]; exact Nat.ne_of_lt (bL (g := gb211) (by (with_reducible repeat (first | refine bN ?_ _ | refine bD ?_ | refine bA ?_ _)); exact BK211.out)) : gb211 ≠ gb223)); have n8_ := aaM ((by rw [hg]; exact Nat.ne_of_gt (bL (g := gb211) (by (with_reducible repeat (first | refine bN ?_ _ | refine bD ?_ | refine bA ?_ _)); exact BK211.out)) : gb223 ≠ gb211)); clear HO217; clear HO220; clear BK211; clear HB; have HO217 := n0_; have HO220 := n1_; have BK211 := n2_; have HB := n3_; have BK223 := n4_; have GW223 := n5_; have GE223 := n6_; have NB211_223 := n7_; have NB223_211 := n8_; clear n0_ n1_ n2_ n3_ n4_ n5_ n6_ n7_ n8_; clear hb hbox hg; have hnb9 := NB223_211.out; have hnc9 := NB211_223.out; have hcz10_0 : w8.cell? ⟨gb223, 0, none⟩ = some (.int .i64 0) := (bC BK223.out 0).trans rfl; have hcz10_1 : w8.cell? ⟨gb223, 1, none⟩ = some (.int .i64 0) := (bC BK223.out 1).trans rfl; have hcz10_2 : w8.cell? ⟨gb223, 2, none⟩ = some (.int .i64 0) := (bC BK223.out 2).trans rfl; have hcz10_3 : w8.cell? ⟨gb223, 3, none⟩ = some (.slice none 0 0) := (bC BK223.out 3).trans rfl; have hcz10_4 : w8.cell? ⟨gb223, 4, none⟩ = some (.slice none 0 0) := (bC BK223.out 4).trans rfl; have hcz10_5 : w8.cell? ⟨gb223, 5, none⟩ = some (.bool false) := (bC BK223.out 5).trans rfl; have hfz10_0 := bF BK223.out 0; have hfz10_1 := bF BK223.out 1; have hfz10_2 := bF BK223.out 2; have hfz10_3 := bF BK223.out 3; have hfz10_4 := bF BK223.out 4; have hfz10_5 := bF BK223.out 5; obtain ⟨Ao11, co11, eo11⟩ := Kd.R_slice HO217.out; subst eo11; obtain ⟨Ao12, co12, eo12⟩ := Kd.R_slice HO220.out; subst eo12) | ((with_reducible refine gate_dst (N := 28) rfl ?_); refine Kd.R_lit k52 _ 52 ?hg (N := 28) ?hd (xs := ([] : List (S52))) (inner := []) (ok := fun _ => True) (okp := fun _ => True) ?hr ?hp (fun _ hk => hk) trivial (Below.refl _ _) (Nat.le_refl _) (by simp) ?_; (case hd => rfl); (case hg => rfl); (case hr => first | (go_simp; done) | (go_simp; rfl)); (case hp => exact (Reps.none _ _)); intro v225 w13 ho14 hb hg_ hnew_; clear hg_ hnew_; (first | rw [← Ny224.out] at ho14 | (simp only [Int.reduceToNat] at ho14; rw [← Ny224.out] at ho14)); have n0_ := aaM (rrB (by (with_reducible repeat (first | apply rrA | apply rrN | apply rrD)); exact (Kd.R_mono (rrF (p := ⟨gb223, 5, none⟩) (rrF (p := ⟨gb223, 4, none⟩) (rrF (p := ⟨gb223, 3, none⟩) (rrF (p := ⟨gb223, 2, none⟩) (rrF (p := ⟨gb223, 1, none⟩) (rrF (p := ⟨gb223, 0, none⟩) (Kd.R_types HO217.out BK223.out (by decide)) (fun _ hk => hk.2) (.int .i64 t212)) (fun _ hk => hk.2) (.int .i64 t213)) (fun _ hk => hk.2) (.int .i64 t214)) (fun _ hk => hk.2) (.slice Ao11 t215.length co11)) (fun _ hk => hk.2) (.slice Ao12 t218.length co12)) (fun _ hk => hk.2) (.bool t221)) (fun _ h_ => h_.1))) hb); have n1_ := aaM (rrB (by (with_reducible repeat (first | apply rrA | apply rrN | apply rrD)); exact (Kd.R_mono (rrF (p := ⟨gb223, 5, none⟩) (rrF (p := ⟨gb223, 4, none⟩) (rrF (p := ⟨gb223, 3, none⟩) (rrF (p := ⟨gb223, 2, none⟩) (rrF (p := ⟨gb223, 1, none⟩) (rrF (p := ⟨gb223, 0, none⟩) (Kd.R_types HO220.out BK223.out (by decide)) (fun _ hk => hk.2) (.int .i64 t212)) (fun _ hk => hk.2) (.int .i64 t213)) (fun _ hk => hk.2) (.int .i64 t214)) (fun _ hk => hk.2) (.slice Ao11 t215.length co11)) (fun _ hk => hk.2) (.slice Ao12 t218.length co12)) (fun _ hk => hk.2) (.bool t221)) (fun _ h_ => h_.1))) hb); have n2_ := aaM (Kd.R_lower ho14 (lZ (by repeat (first | (with_reducible first | exact HB.out | apply lA | apply lN | apply lD | refine lS ?_ GE211.out | refine lS ?_ GE223.out) | exact HB.out)))); have n3_ := aaM (bB (g := gb211) (o := .cells #[.int .i64 0, .int .i64 0, .int .i64 0, .slice none 0 0, .slice none 0 0, .bool false] 42 (0, 0)) (by (with_reducible repeat (first | refine bN ?_ _ | refine bD ?_ | refine bA ?_ _)); refine blk_far ?_ NB211_223.out _; (with_reducible repeat (first | refine bN ?_ _ | refine bD ?_ | refine bA ?_ _)); refine blk_far ?_ NB211_223.out _; (with_reducible repeat (first | refine bN ?_ _ | refine bD ?_ | refine bA ?_ _)); refine blk_far ?_ NB211_223.out _; (with_reducible repeat (first | refine bN ?_ _ | refine bD ?_ | refine bA ?_ _)); refine blk_far ?_ NB211_223.out _; (with_reducible repeat (first | refine bN ?_ _ | refine bD ?_ | refine bA ?_ _)); refine blk_far ?_ NB211_223.out _; (with_reducible repeat (first | refine bN ?_ _ | refine bD ?_ | refine bA ?_ _)); refine blk_far ?_ NB211_223.out _; (with_reducible repeat (first | refine bN ?_ _ | refine bD ?_ | refine bA ?_ _)); exact BK211.out) hb); have n4_ := aaM (bB (g := gb223) (o := .cells #[.int .i64 t212, .int .i64 t213, .int .i64 t214, .slice Ao11 t215.length co11, .slice Ao12 t218.length co12, .bool t221] 42 (0, 0)) (by (with_reducible repeat (first | refine bN ?_ _ | refine bD ?_ | refine bA ?_ _)); refine blk_put (cs := #[.int .i64 t212, .int .i64 t213, .int .i64 t214, .slice Ao11 t215.length co11, .slice Ao12 t218.length co12, .bool false]) ?_ 5 _ rfl; (with_reducible repeat (first | refine bN ?_ _ | refine bD ?_ | refine bA ?_ _)); refine blk_put (cs := #[.int .i64 t212, .int .i64 t213, .int .i64 t214, .slice Ao11 t215.length co11, .slice none 0 0, .bool false]) ?_ 4 _ rfl; (with_reducible repeat (first | refine bN ?_ _ | refine bD ?_ | refine bA ?_ _)); refine blk_put (cs := #[.int .i64 t212, .int .i64 t213, .int .i64 t214, .slice none 0 0, .slice none 0 0, .bool false]) ?_ 3 _ rfl; (with_reducible repeat (first | refine bN ?_ _ | refine bD ?_ | refine bA ?_ _)); refine blk_put (cs := #[.int .i64 t212, .int .i64 t213, .int .i64 0, .slice none 0 0, .slice none 0 0, .bool false]) ?_ 2 _ rfl; (with_reducible repeat (first | refine bN ?_ _ | refine bD ?_ | refine bA ?_ _)); refine blk_put (cs := #[.int .i64 t212, .int .i64 0, .int .i64 0, .slice none 0 0, .slice none 0 0, .bool false]) ?_ 1 _ rfl; (with_reducible repeat (first | refine bN ?_ _ | refine bD ?_ | refine bA ?_ _)); refine blk_put (cs := #[.int .i64 0, .int .i64 0, .int .i64 0, .slice none 0 0, .slice none 0 0, .bool false]) ?_ 0 _ rfl; (with_reducible repeat (first | refine bN ?_ _ | refine bD ?_ | refine bA ?_ _)); exact BK223.out) hb); have n5_ := aaM (lP (by repeat (first | (with_reducible first | exact HB.out | apply lA | apply lN | apply lD | refine lS ?_ GE211.out | refine lS ?_ GE223.out) | exact HB.out)) hb); clear HO217; clear HO220; clear BK211; clear BK223; clear HB; have HO217 := n0_; have HO220 := n1_; have HO226 := n2_; have BK211 := n3_; have BK223 := n4_; have HB := n5_; clear n0_ n1_ n2_ n3_ n4_ n5_; clear hb ho14))
  go_loopg [11] k (fun kq v11 w' => ∃ (x11_1 : List (S52)) (x212000_1 : Int) (x212001_1 : Int) (x212002_1 : Int) (x212005_1 : Bool) (x224000_1 : Int) (x224001_1 : Int) (x224002_1 : Int) (x224003_1 : List Int) (x224004_1 : List Bool) (x224005_1 : Bool) (u224003 : Value) (u224004 : Value), Aside0 (hornbeamref21_Play.l0 kq l2 x11_1 x224000_1 x224001_1 x224002_1 x224003_1 x224004_1 x224005_1 = some (r1, r2, r3, r4, r5, r6, r7, r8)) ∧ Aside0 (kq ≤ k) ∧ Aside0 (Kd.R k52 52 w' w.heap.size (fun _ => True) v11 x11_1) ∧ Aside0 (Kd.R (Kd.int .i64) 3 w' w.heap.size (fun _ => True) u224003 x224003_1) ∧ Aside0 (Kd.R Kd.bool 4 w' w.heap.size (fun _ => True) u224004 x224004_1) ∧ Aside0 (w'.heap[gb211]? = some (.cells #[.int .i64 x212000_1, .int .i64 x212001_1, .int .i64 x212002_1, (.slice none 0 0), (.slice none 0 0), .bool x212005_1] 42 (0, 0))) ∧ Aside0 (w'.heap[gb223]? = some (.cells #[.int .i64 x224000_1, .int .i64 x224001_1, .int .i64 x224002_1, u224003, u224004, .bool x224005_1] 42 (0, 0))) ∧ Aside0 (Below w.heap.size w w'))
  case atStart => exact ⟨(y224), (0), (0), (0), (false), (t212), (t213), (t214), (t215), (t218), (t221), (.slice Ao11 t215.length co11), (.slice Ao12 t218.length co12), H', ⟨Nat.le_refl _⟩, ⟨by (with_reducible repeat (first | apply rrA | apply rrN | apply rrD)); exact HO226.out⟩, ⟨by (with_reducible repeat (first | apply rrA | apply rrN | apply rrD)); exact HO217.out⟩, ⟨by (with_reducible repeat (first | apply rrA | apply rrN | apply rrD)); exact HO220.out⟩, ⟨by (with_reducible repeat (first | refine bN ?_ _ | refine bD ?_ | refine bA ?_ _)); exact BK211.out⟩, ⟨by (with_reducible repeat (first | refine bN ?_ _ | refine bD ?_ | refine bA ?_ _)); exact BK223.out⟩, ⟨by repeat (first | (with_reducible first | exact HB.out | apply lA | apply lN | apply lD | refine lS ?_ GE211.out | refine lS ?_ GE223.out) | exact HB.out)⟩⟩
  case round =>
   clear H'
   try clear c2
   try clear p2
   try clear c5
   try clear c5b0
   try clear c5b1
   try clear c9
   try clear hcz10_0
   try clear hcz10_1
   try clear hcz10_2
   try clear hcz10_3
   try clear hcz10_4
   try clear hcz10_5
   try clear hfz10_0
   try clear hfz10_1
   try clear hfz10_2
   try clear hfz10_3
   try clear hfz10_4
   try clear hfz10_5
   obtain ⟨x11_1, x212000_1, x212001_1, x212002_1, x212005_1, x224000_1, x224001_1, x224002_1, x224003_1, x224004_1, x224005_1, u224003, u224004, HA, HK1, HO_11, HO_224003, HO_224004, BK211, BK223, HB⟩ := hrel
   cases gk with
   | zero => exact absurd HA.out (by simp [hornbeamref21_Play.l0])
   | succ k1 =>
    have H := HA.out
    clear HA
    simp only [hornbeamref21_Play.l0] at H
    replace H := ooB.mp H
    obtain ⟨t227, A150, H⟩ := H
    replace H : (if (t227.length : Int) = 0 then (some (x11_1, x224000_1, x224001_1, x224002_1, x224003_1, x224004_1, x224005_1, 0)) else (if (x11_1.length : Int) < (l2.length : Int) then (if 0 ≤ (x11_1.length : Int) then (hornbeamref21_Play.j1 k1 l2 x11_1 t227 0 (x11_1.length : Int) (decide ((rd l2 (x11_1.length : Int)) ≥ 0)) x224000_1 x224001_1 x224002_1 x224003_1 x224004_1 x224005_1) else (none)) else (hornbeamref21_Play.j1 k1 l2 x11_1 t227 0 (x11_1.length : Int) false x224000_1 x224001_1 x224002_1 x224003_1 x224004_1 x224005_1))) = some (r1, r2, r3, r4, r5, r6, r7, r8) := H
    have A15 := aaM A150
    clear A150
    by_cases c16 : (t227.length : Int) = 0
    ·rw [if_pos c16] at H
     have c16b0 : ((t227.length : Int) == 0) = true := beq_iff_eq.mpr c16
     have c16b1 : ((t227.length : Int) != 0) = false := bne_eq_false_iff_eq.mpr c16
     clear c16
     simp only [Option.some.injEq, Prod.mk.injEq] at H
     obtain ⟨rfl, rfl, rfl, rfl, rfl, rfl, rfl, rfl⟩ := H
     have hnb17 := NB223_211.out
     have hnc17 := NB211_223.out
     have hcz18_0 : wr.cell? ⟨gb223, 0, none⟩ = some (.int .i64 x224000_1) := (bC BK223.out 0).trans rfl
     have hcz18_1 : wr.cell? ⟨gb223, 1, none⟩ = some (.int .i64 x224001_1) := (bC BK223.out 1).trans rfl
     have hcz18_2 : wr.cell? ⟨gb223, 2, none⟩ = some (.int .i64 x224002_1) := (bC BK223.out 2).trans rfl
     have hcz18_3 : wr.cell? ⟨gb223, 3, none⟩ = some (u224003) := (bC BK223.out 3).trans rfl
     have hcz18_4 : wr.cell? ⟨gb223, 4, none⟩ = some (u224004) := (bC BK223.out 4).trans rfl
     have hcz18_5 : wr.cell? ⟨gb223, 5, none⟩ = some (.bool x224005_1) := (bC BK223.out 5).trans rfl
     have hfz18_0 := bF BK223.out 0
     have hfz18_1 := bF BK223.out 1
     have hfz18_2 := bF BK223.out 2
     have hfz18_3 := bF BK223.out 3
     have hfz18_4 := bF BK223.out 4
     have hfz18_5 := bF BK223.out 5
     obtain ⟨Ao19, co19, eo19⟩ := Kd.R_slice HO_224003.out
     subst eo19
     obtain ⟨Ao20, co20, eo20⟩ := Kd.R_slice HO_224004.out
     subst eo20
     try go_wp2_with (first | ((with_reducible refine gate_callee (f := 40) rfl ?_); refine goesL_ (some 30) rfl rfl Try.func40 (by kernel_rfl) rfl #[.agg #[.int .i64 x224000_1, .int .i64 x224001_1, .int .i64 x224002_1, .slice Ao19 x224003_1.length co19, .slice Ao20 x224004_1.length co20, .bool x224005_1]] rfl (by (try simp only [List.map_toArray, List.map_cons, List.map_nil]); first | done | rfl | (simp only [List.length_drop, List.length_take]; rfl)) ?_; (with_reducible refine (hornbeamref21_Ready.calls k1 x224000_1 x224001_1 x224002_1 _ _ x224003_1 _ _ x224004_1 x224005_1 t227 _ ?side1 ?side2 ?side3 ?side4 A15.out).mono ?_); (case side1 => repeat (first | exact (Kd.R_reads' HO_224003.out).2.2 | (with_reducible refine ccA ?_ _) | (with_reducible refine ccN ?_ _) | (with_reducible refine ccD ?_))); (case side2 => exact (Kd.R_reads' HO_224003.out).2.1); (case side3 => repeat (first | exact (Kd.R_reads' HO_224004.out).2.2 | (with_reducible refine ccA ?_ _) | (with_reducible refine ccN ?_ _) | (with_reducible refine ccD ?_))); (case side4 => exact (Kd.R_reads' HO_224004.out).2.1); rintro e w21 ⟨v228, rfl, ho0, hb⟩; refine ⟨_, rfl, ?_⟩; have n0_ := aaM (rrB (by (with_reducible repeat (first | apply rrA | apply rrN | apply rrD)); exact HO_11.out) hb); have n1_ := aaM (Kd.R_elder' (by (with_reducible repeat (first | apply rrA | apply rrN | apply rrD)); exact HO_224003.out) (Kd.R_base ho0) hb); have n2_ := aaM (rrB (by (with_reducible repeat (first | apply rrA | apply rrN | apply rrD)); exact HO_224004.out) hb); have n3_ := aaM (Kd.R_lower (Kd.R_new' ho0 (Kd.R_lt (by (with_reducible repeat (first | apply rrA | apply rrN | apply rrD)); exact HO_224003.out))) (lZ (by repeat (first | (with_reducible first | exact HB.out | apply lA | apply lN | apply lD | refine lS ?_ GE211.out | refine lS ?_ GE223.out) | exact HB.out)))); have n4_ := aaM (bB (g := gb211) (o := .cells #[.int .i64 x212000_1, .int .i64 x212001_1, .int .i64 x212002_1, .slice none 0 0, .slice none 0 0, .bool x212005_1] 42 (0, 0)) (by (with_reducible repeat (first | refine bN ?_ _ | refine bD ?_ | refine bA ?_ _)); exact BK211.out) hb); have n5_ := aaM (bB (g := gb223) (o := .cells #[.int .i64 x224000_1, .int .i64 x224001_1, .int .i64 x224002_1, .slice Ao19 x224003_1.length co19, .slice Ao20 x224004_1.length co20, .bool x224005_1] 42 (0, 0)) (by (with_reducible repeat (first | refine bN ?_ _ | refine bD ?_ | refine bA ?_ _)); exact BK223.out) hb); have n6_ := aaM (lP (by repeat (first | (with_reducible first | exact HB.out | apply lA | apply lN | apply lD | refine lS ?_ GE211.out | refine lS ?_ GE223.out) | exact HB.out)) hb); clear HO_11; clear HO_224003; clear HO_224004; clear BK211; clear BK223; clear HB; have HO_11 := n0_; have HO_224003 := n1_; have HO_224004 := n2_; have HO229 := n3_; have BK211 := n4_; have BK223 := n5_; have HB := n6_; clear n0_ n1_ n2_ n3_ n4_ n5_ n6_; (try clear hb); (try clear hb2); (try clear hk); (try clear hi); (try clear ho0); obtain ⟨Ao22, co22, eo22⟩ := Kd.R_slice HO229.out; subst eo22))
     have n0_ := aaM (rrD HO_11.out)
     have n1_ := aaM (rrD HO_224003.out)
     have n2_ := aaM (rrD HO_224004.out)
     have n3_ := aaM (rrD HO229.out)
     have n4_ := aaM (bD BK211.out)
     have n5_ := aaM (bD BK223.out)
     have n6_ := aaM (lD HB.out)
     clear HO_11 HO_224003 HO_224004 HO229 BK211 BK223 HB
     have HO_11 := n0_
     have HO_224003 := n1_
     have HO_224004 := n2_
     have HO229 := n3_
     have BK211 := n4_
     have BK223 := n5_
     have HB := n6_
     clear n0_ n1_ n2_ n3_ n4_ n5_ n6_
     refine start_ (n := 5) (S := fun w' => w'.cell? ⟨gb223, 0, none⟩ = some (.int .i64 x224000_1) ∧ w'.cell? ⟨gb223, 1, none⟩ = some (.int .i64 x224001_1) ∧ w'.cell? ⟨gb223, 2, none⟩ = some (.int .i64 x224002_1) ∧ w'.cell? ⟨gb223, 3, none⟩ = some (.slice Ao19 x224003_1.length co19) ∧ w'.cell? ⟨gb223, 4, none⟩ = some (.slice Ao20 x224004_1.length co20) ∧ w'.cell? ⟨gb223, 5, none⟩ = some (.bool x224005_1)) (ds := []) #[false, false, false, false, false] (by kernel_rfl) rfl rfl ⟨(bC BK223.out 0).trans rfl, (bC BK223.out 1).trans rfl, (bC BK223.out 2).trans rfl, (bC BK223.out 3).trans rfl, (bC BK223.out 4).trans rfl, (bC BK223.out 5).trans rfl⟩ (fun hHeld => ?_)
     generalize w21.drew = w23 at HO_11 HO_224003 HO_224004 HO229 BK211 BK223 HB hHeld ⊢
     refine pure_ (i := 0) (N := some 34) (v := ?_) (a' := ?_) #[true, false, false, false, false] rfl rfl (by kernel_rfl) (fun _ _ _ h => h) (Or.inl ⟨by rfl, ?_⟩) ?_ ?_
     rotate_left
     ·intro w'
      go_simp
      with_reducible rfl
     rotate_left
     ·simp only [Act.put, ssB, ssZ, ssS, i64_w, i32_w]
      rfl
     refine pure_ (i := 2) (N := some 6) (v := ?_) (a' := ?_) #[true, false, true, false, false] rfl rfl (by kernel_rfl) (fun _ _ _ h => h) (Or.inl ⟨by rfl, ?_⟩) ?_ ?_
     rotate_left
     ·intro w'
      go_simp
      with_reducible rfl
     rotate_left
     ·simp only [Act.put, ssB, ssZ, ssS, i64_w, i32_w]
      rfl
     refine take_ (i := 1) (N := some 35) (v := ?_) (a' := ?_) #[true, true, true, false, false] rfl rfl (by kernel_rfl) (fun _ _ _ h => h) (Or.inl ⟨by rfl, ?_⟩) hHeld ?_ ?_
     rotate_left
     ·rintro w' ⟨s0, s1, s2, s3, s4, s5⟩
      (try simp only [Int.toNat_natCast] at s0 s1 s2 s3 s4 s5)
      go_simp
      with_reducible rfl
     rotate_left
     ·simp only [Act.put, ssB, ssZ, ssS, i64_w, i32_w]
      rfl
     refine one_ (i := 3) (N := none) #[true, true, true, true, false] rfl rfl (by kernel_rfl) (by decide) (fun K hK => ?_)
     have hs24 : w23.cell? ⟨gb211, 0, none⟩ = some (.int .i64 x212000_1) := (bC BK211.out 0).trans rfl
     have hfs24 := bF BK211.out 0
     have hns24_1 := NB223_211.out
     have hms24_1 := NB211_223.out
     have hs25 : w23.cell? ⟨gb211, 1, none⟩ = some (.int .i64 x212001_1) := (bC BK211.out 1).trans rfl
     have hfs25 := bF BK211.out 1
     have hns25_1 := NB223_211.out
     have hms25_1 := NB211_223.out
     have hs26 : w23.cell? ⟨gb211, 2, none⟩ = some (.int .i64 x212002_1) := (bC BK211.out 2).trans rfl
     have hfs26 := bF BK211.out 2
     have hns26_1 := NB223_211.out
     have hms26_1 := NB211_223.out
     have hs27 : w23.cell? ⟨gb211, 3, none⟩ = some (.slice none 0 0) := (bC BK211.out 3).trans rfl
     have hfs27 := bF BK211.out 3
     have hns27_1 := NB223_211.out
     have hms27_1 := NB211_223.out
     have hs28 : w23.cell? ⟨gb211, 4, none⟩ = some (.slice none 0 0) := (bC BK211.out 4).trans rfl
     have hfs28 := bF BK211.out 4
     have hns28_1 := NB223_211.out
     have hms28_1 := NB211_223.out
     have hs29 : w23.cell? ⟨gb211, 5, none⟩ = some (.bool x212005_1) := (bC BK211.out 5).trans rfl
     have hfs29 := bF BK211.out 5
     have hns29_1 := NB223_211.out
     have hms29_1 := NB211_223.out
     refine skip_ (w1 := ?_) (by rfl) rfl ?_ ?_
     rotate_left
     ·go_simp
      rfl
     refine hK.out _ _ ⟨((cell_far (p := ⟨gb211, _, none⟩) NB223_211.out _).trans (((cell_far (p := ⟨gb211, _, none⟩) NB223_211.out _).trans (((cell_far (p := ⟨gb211, _, none⟩) NB223_211.out _).trans (((cell_far (p := ⟨gb211, _, none⟩) NB223_211.out _).trans (((cell_far (p := ⟨gb211, _, none⟩) NB223_211.out _).trans (((cell_far (p := ⟨gb211, _, none⟩) NB223_211.out _).trans (hHeld.1)))))))))))), ((cell_far (p := ⟨gb211, _, none⟩) NB223_211.out _).trans (((cell_far (p := ⟨gb211, _, none⟩) NB223_211.out _).trans (((cell_far (p := ⟨gb211, _, none⟩) NB223_211.out _).trans (((cell_far (p := ⟨gb211, _, none⟩) NB223_211.out _).trans (((cell_far (p := ⟨gb211, _, none⟩) NB223_211.out _).trans (((cell_far (p := ⟨gb211, _, none⟩) NB223_211.out _).trans (hHeld.2.1)))))))))))), ((cell_far (p := ⟨gb211, _, none⟩) NB223_211.out _).trans (((cell_far (p := ⟨gb211, _, none⟩) NB223_211.out _).trans (((cell_far (p := ⟨gb211, _, none⟩) NB223_211.out _).trans (((cell_far (p := ⟨gb211, _, none⟩) NB223_211.out _).trans (((cell_far (p := ⟨gb211, _, none⟩) NB223_211.out _).trans (((cell_far (p := ⟨gb211, _, none⟩) NB223_211.out _).trans (hHeld.2.2.1)))))))))))), ((cell_far (p := ⟨gb211, _, none⟩) NB223_211.out _).trans (((cell_far (p := ⟨gb211, _, none⟩) NB223_211.out _).trans (((cell_far (p := ⟨gb211, _, none⟩) NB223_211.out _).trans (((cell_far (p := ⟨gb211, _, none⟩) NB223_211.out _).trans (((cell_far (p := ⟨gb211, _, none⟩) NB223_211.out _).trans (((cell_far (p := ⟨gb211, _, none⟩) NB223_211.out _).trans (hHeld.2.2.2.1)))))))))))), ((cell_far (p := ⟨gb211, _, none⟩) NB223_211.out _).trans (((cell_far (p := ⟨gb211, _, none⟩) NB223_211.out _).trans (((cell_far (p := ⟨gb211, _, none⟩) NB223_211.out _).trans (((cell_far (p := ⟨gb211, _, none⟩) NB223_211.out _).trans (((cell_far (p := ⟨gb211, _, none⟩) NB223_211.out _).trans (((cell_far (p := ⟨gb211, _, none⟩) NB223_211.out _).trans (hHeld.2.2.2.2.1)))))))))))), ((cell_far (p := ⟨gb211, _, none⟩) NB223_211.out _).trans (((cell_far (p := ⟨gb211, _, none⟩) NB223_211.out _).trans (((cell_far (p := ⟨gb211, _, none⟩) NB223_211.out _).trans (((cell_far (p := ⟨gb211, _, none⟩) NB223_211.out _).trans (((cell_far (p := ⟨gb211, _, none⟩) NB223_211.out _).trans (((cell_far (p := ⟨gb211, _, none⟩) NB223_211.out _).trans (hHeld.2.2.2.2.2))))))))))))⟩ (fun hHeld => ?_)
     clear hK K
     refine pure_ (i := 4) (N := some 8) (v := ?_) (a' := ?_) #[true, true, true, true, true] rfl rfl (by kernel_rfl) (fun _ _ _ h => h) (Or.inl ⟨by rfl, ?_⟩) ?_ ?_
     rotate_left
     ·intro w'
      go_simp
      with_reducible rfl
     rotate_left
     ·simp only [Act.put, ssB, ssZ, ssS, i64_w, i32_w]
      rfl
     refine done_ (by kernel_rfl) ?_
     try go_wp2
     refine bodyPost_ret (results_list (rs := [.tmp 6, .cell 7 42, .tmp 8]) rfl (by simp) (.tmp (.cell gb211 42 #[.int .i64 x224000_1, .int .i64 x224001_1, .int .i64 x224002_1, .slice Ao19 x224003_1.length co19, .slice Ao20 x224004_1.length co20, .bool x224005_1] (0, 0) _ rfl (by (with_reducible repeat (first | refine bN ?_ _ | refine bD ?_ | refine bA ?_ _)); refine blk_put (cs := #[.int .i64 x224000_1, .int .i64 x224001_1, .int .i64 x224002_1, .slice Ao19 x224003_1.length co19, .slice Ao20 x224004_1.length co20, .bool x212005_1]) ?_ 5 _ rfl; (with_reducible repeat (first | refine bN ?_ _ | refine bD ?_ | refine bA ?_ _)); refine blk_put (cs := #[.int .i64 x224000_1, .int .i64 x224001_1, .int .i64 x224002_1, .slice Ao19 x224003_1.length co19, .slice none 0 0, .bool x212005_1]) ?_ 4 _ rfl; (with_reducible repeat (first | refine bN ?_ _ | refine bD ?_ | refine bA ?_ _)); refine blk_put (cs := #[.int .i64 x224000_1, .int .i64 x224001_1, .int .i64 x224002_1, .slice none 0 0, .slice none 0 0, .bool x212005_1]) ?_ 3 _ rfl; (with_reducible repeat (first | refine bN ?_ _ | refine bD ?_ | refine bA ?_ _)); refine blk_put (cs := #[.int .i64 x224000_1, .int .i64 x224001_1, .int .i64 x212002_1, .slice none 0 0, .slice none 0 0, .bool x212005_1]) ?_ 2 _ rfl; (with_reducible repeat (first | refine bN ?_ _ | refine bD ?_ | refine bA ?_ _)); refine blk_put (cs := #[.int .i64 x224000_1, .int .i64 x212001_1, .int .i64 x212002_1, .slice none 0 0, .slice none 0 0, .bool x212005_1]) ?_ 1 _ rfl; (with_reducible repeat (first | refine bN ?_ _ | refine bD ?_ | refine bA ?_ _)); refine blk_put (cs := #[.int .i64 x212000_1, .int .i64 x212001_1, .int .i64 x212002_1, .slice none 0 0, .slice none 0 0, .bool x212005_1]) ?_ 0 _ rfl; (with_reducible repeat (first | refine bN ?_ _ | refine bD ?_ | refine bA ?_ _)); exact BK211.out) Try.underlying42 rfl (by kernel_rfl) (.tmp .nil)))) rfl ?_
     exact ⟨_, _, _, by first | rfl | (simp [errW_none, errW_some] <;> rfl) | (simp [*, errW_none, errW_some] <;> rfl), by (with_reducible repeat (first | apply rrA | apply rrN | apply rrD)); exact Kd.R_mono (rrF (p := ⟨gb211, 5, none⟩) (rrF (p := ⟨gb211, 4, none⟩) (rrF (p := ⟨gb211, 3, none⟩) (rrF (p := ⟨gb211, 2, none⟩) (rrF (p := ⟨gb211, 1, none⟩) (rrF (p := ⟨gb211, 0, none⟩) (Kd.R_types HO_11.out BK211.out (by decide)) (fun _ hk => hk.2) (.int .i64 x224000_1)) (fun _ hk => hk.2) (.int .i64 x224001_1)) (fun _ hk => hk.2) (.int .i64 x224002_1)) (fun _ hk => hk.2) (.slice Ao19 x224003_1.length co19)) (fun _ hk => hk.2) (.slice Ao20 x224004_1.length co20)) (fun _ hk => hk.2) (.bool x224005_1)) (fun _ hk => trivial), by (with_reducible repeat (first | apply rrA | apply rrN | apply rrD)); exact Kd.R_mono (rrF (p := ⟨gb211, 5, none⟩) (rrF (p := ⟨gb211, 4, none⟩) (rrF (p := ⟨gb211, 3, none⟩) (rrF (p := ⟨gb211, 2, none⟩) (rrF (p := ⟨gb211, 1, none⟩) (rrF (p := ⟨gb211, 0, none⟩) (Kd.R_types HO_224003.out BK211.out (by decide)) (fun _ hk => hk.2) (.int .i64 x224000_1)) (fun _ hk => hk.2) (.int .i64 x224001_1)) (fun _ hk => hk.2) (.int .i64 x224002_1)) (fun _ hk => hk.2) (.slice Ao19 x224003_1.length co19)) (fun _ hk => hk.2) (.slice Ao20 x224004_1.length co20)) (fun _ hk => hk.2) (.bool x224005_1)) (fun _ hk => trivial), by (with_reducible repeat (first | apply rrA | apply rrN | apply rrD)); exact Kd.R_mono (rrF (p := ⟨gb211, 5, none⟩) (rrF (p := ⟨gb211, 4, none⟩) (rrF (p := ⟨gb211, 3, none⟩) (rrF (p := ⟨gb211, 2, none⟩) (rrF (p := ⟨gb211, 1, none⟩) (rrF (p := ⟨gb211, 0, none⟩) (Kd.R_types HO_224004.out BK211.out (by decide)) (fun _ hk => hk.2) (.int .i64 x224000_1)) (fun _ hk => hk.2) (.int .i64 x224001_1)) (fun _ hk => hk.2) (.int .i64 x224002_1)) (fun _ hk => hk.2) (.slice Ao19 x224003_1.length co19)) (fun _ hk => hk.2) (.slice Ao20 x224004_1.length co20)) (fun _ hk => hk.2) (.bool x224005_1)) (fun _ hk => trivial), by repeat (first | (with_reducible first | exact HB.out | apply lA | apply lN | apply lD | refine lS ?_ GE211.out | refine lS ?_ GE223.out) | exact HB.out)⟩
    ·rw [if_neg c16] at H
     have c16b0 : ((t227.length : Int) == 0) = false := beq_eq_false_iff_ne.mpr c16
     have c16b1 : ((t227.length : Int) != 0) = true := bne_iff_ne.mpr c16
     have c16b2 : ¬ (t227 = []) := fun h_ => c16 (by rw [h_]; rfl)
     have HC30 := aaM H
     clear H
     have hnb31 := NB223_211.out
     have hnc31 := NB211_223.out
     have hcz32_0 : wr.cell? ⟨gb223, 0, none⟩ = some (.int .i64 x224000_1) := (bC BK223.out 0).trans rfl
     have hcz32_1 : wr.cell? ⟨gb223, 1, none⟩ = some (.int .i64 x224001_1) := (bC BK223.out 1).trans rfl
     have hcz32_2 : wr.cell? ⟨gb223, 2, none⟩ = some (.int .i64 x224002_1) := (bC BK223.out 2).trans rfl
     have hcz32_3 : wr.cell? ⟨gb223, 3, none⟩ = some (u224003) := (bC BK223.out 3).trans rfl
     have hcz32_4 : wr.cell? ⟨gb223, 4, none⟩ = some (u224004) := (bC BK223.out 4).trans rfl
     have hcz32_5 : wr.cell? ⟨gb223, 5, none⟩ = some (.bool x224005_1) := (bC BK223.out 5).trans rfl
     have hfz32_0 := bF BK223.out 0
     have hfz32_1 := bF BK223.out 1
     have hfz32_2 := bF BK223.out 2
     have hfz32_3 := bF BK223.out 3
     have hfz32_4 := bF BK223.out 4
     have hfz32_5 := bF BK223.out 5
     obtain ⟨Ao33, co33, eo33⟩ := Kd.R_slice HO_224003.out
     subst eo33
     obtain ⟨Ao34, co34, eo34⟩ := Kd.R_slice HO_224004.out
     subst eo34
     go_upto_region 10 with (first | ((with_reducible refine gate_callee (f := 40) rfl ?_); refine goesL_ (some 30) rfl rfl Try.func40 (by kernel_rfl) rfl #[.agg #[.int .i64 x224000_1, .int .i64 x224001_1, .int .i64 x224002_1, .slice Ao33 x224003_1.length co33, .slice Ao34 x224004_1.length co34, .bool x224005_1]] rfl (by (try simp only [List.map_toArray, List.map_cons, List.map_nil]); first | done | rfl | (simp only [List.length_drop, List.length_take]; rfl)) ?_; (with_reducible refine (hornbeamref21_Ready.calls k1 x224000_1 x224001_1 x224002_1 _ _ x224003_1 _ _ x224004_1 x224005_1 t227 _ ?side1 ?side2 ?side3 ?side4 A15.out).mono ?_); (case side1 => repeat (first | exact (Kd.R_reads' HO_224003.out).2.2 | (with_reducible refine ccA ?_ _) | (with_reducible refine ccN ?_ _) | (with_reducible refine ccD ?_))); (case side2 => exact (Kd.R_reads' HO_224003.out).2.1); (case side3 => repeat (first | exact (Kd.R_reads' HO_224004.out).2.2 | (with_reducible refine ccA ?_ _) | (with_reducible refine ccN ?_ _) | (with_reducible refine ccD ?_))); (case side4 => exact (Kd.R_reads' HO_224004.out).2.1); rintro e w35 ⟨v228, rfl, ho0, hb⟩; refine ⟨_, rfl, ?_⟩; have n0_ := aaM (rrB (by (with_reducible repeat (first | apply rrA | apply rrN | apply rrD)); exact HO_11.out) hb); have n1_ := aaM (Kd.R_elder' (by (with_reducible repeat (first | apply rrA | apply rrN | apply rrD)); exact HO_224003.out) (Kd.R_base ho0) hb); have n2_ := aaM (rrB (by (with_reducible repeat (first | apply rrA | apply rrN | apply rrD)); exact HO_224004.out) hb); have n3_ := aaM (Kd.R_lower (Kd.R_new' ho0 (Kd.R_lt (by (with_reducible repeat (first | apply rrA | apply rrN | apply rrD)); exact HO_224003.out))) (lZ (by repeat (first | (with_reducible first | exact HB.out | apply lA | apply lN | apply lD | refine lS ?_ GE211.out | refine lS ?_ GE223.out) | exact HB.out)))); have n4_ := aaM (bB (g := gb211) (o := .cells #[.int .i64 x212000_1, .int .i64 x212001_1, .int .i64 x212002_1, .slice none 0 0, .slice none 0 0, .bool x212005_1] 42 (0, 0)) (by (with_reducible repeat (first | refine bN ?_ _ | refine bD ?_ | refine bA ?_ _)); exact BK211.out) hb); have n5_ := aaM (bB (g := gb223) (o := .cells #[.int .i64 x224000_1, .int .i64 x224001_1, .int .i64 x224002_1, .slice Ao33 x224003_1.length co33, .slice Ao34 x224004_1.length co34, .bool x224005_1] 42 (0, 0)) (by (with_reducible repeat (first | refine bN ?_ _ | refine bD ?_ | refine bA ?_ _)); exact BK223.out) hb); have n6_ := aaM (lP (by repeat (first | (with_reducible first | exact HB.out | apply lA | apply lN | apply lD | refine lS ?_ GE211.out | refine lS ?_ GE223.out) | exact HB.out)) hb); clear HO_11; clear HO_224003; clear HO_224004; clear BK211; clear BK223; clear HB; have HO_11 := n0_; have HO_224003 := n1_; have HO_224004 := n2_; have HO229 := n3_; have BK211 := n4_; have BK223 := n5_; have HB := n6_; clear n0_ n1_ n2_ n3_ n4_ n5_ n6_; (try clear hb); (try clear hb2); (try clear hk); (try clear hi); (try clear ho0); obtain ⟨Ao36, co36, eo36⟩ := Kd.R_slice HO229.out; subst eo36; obtain ⟨Ao37, co37, eo37⟩ := Kd.R_slice HO_11.out; subst eo37))
     (try simp only [Act.put, ssB, ssZ, ssS])
     go_cut [48] (fun v48 wc => ∃ (kq : Nat) (x48_29 : Bool), v48 = .bool x48_29 ∧ Aside0 (hornbeamref21_Play.j1 kq l2 x11_1 t227 0 (x11_1.length : Int) x48_29 x224000_1 x224001_1 x224002_1 x224003_1 x224004_1 x224005_1 = some (r1, r2, r3, r4, r5, r6, r7, r8)) ∧ Aside0 (kq ≤ k1) ∧ Aside0 (Kd.R k52 52 wc w.heap.size (fun _ => True) (.slice Ao37 x11_1.length co37) x11_1) ∧ Aside0 (Kd.R (Kd.int .i64) 3 wc w.heap.size (fun k_ => some k_ ≠ ((.slice Ao33 x224003_1.length co33) : Value).ownBlock) (.slice Ao36 t227.length co36) t227) ∧ Aside0 (Kd.R (Kd.int .i64) 3 wc w.heap.size (fun k_ => some k_ ≠ ((.slice Ao36 t227.length co36) : Value).ownBlock) (.slice Ao33 x224003_1.length co33) x224003_1) ∧ Aside0 (Kd.R Kd.bool 4 wc w.heap.size (fun _ => True) (.slice Ao34 x224004_1.length co34) x224004_1) ∧ Aside0 (wc.heap[gb211]? = some (.cells #[.int .i64 x212000_1, .int .i64 x212001_1, .int .i64 x212002_1, (.slice none 0 0), (.slice none 0 0), .bool x212005_1] 42 (0, 0))) ∧ Aside0 (wc.heap[gb223]? = some (.cells #[.int .i64 x224000_1, .int .i64 x224001_1, .int .i64 x224002_1, (.slice Ao33 x224003_1.length co33), (.slice Ao34 x224004_1.length co34), .bool x224005_1] 42 (0, 0))) ∧ Aside0 (Below w.heap.size w wc))
     case first =>
      have H := HC30.out
      clear HC30
      by_cases c38 : (x11_1.length : Int) < (l2.length : Int)
      ·rw [if_pos c38] at H
       have c38b0 : decide ((x11_1.length : Int) < (l2.length : Int)) = true := decide_eq_true c38
       have c38b1 : decide (x11_1.length < l2.length) = true := decide_eq_true (Int.ofNat_lt.mp c38)
       clear c38
       (first | rw [c38b0] | (simp only [i64_w, i32_w]; rw [c38b0]) | skip)
       by_cases c39 : 0 ≤ (x11_1.length : Int)
       ·rw [if_pos c39] at H
        have c39b0 : decide (0 ≤ (x11_1.length : Int)) = true := decide_eq_true c39
        have c39b1 : decide (0 ≤ x11_1.length) = true := decide_eq_true (by omega)
        clear c39
        have H' := aaM H
        clear H
        have p230 : 0 ≤ ((x11_1.length : Int) : Int) := of_decide_eq_true (by first | (with_reducible assumption) | assumption)
        have q230 : (x11_1.length : Int) < (l2.length : Int) := of_decide_eq_true (by first | (with_reducible assumption) | assumption)
        obtain ⟨ad230, e230, hx230_0⟩ := Kd.at_int HR2.out (x11_1.length : Int) p230 q230
        cases e230
        replace hx230_0 := (HB.out.cell (World.block_lt_of_cell? w _ hx230_0)).trans hx230_0
        (try simp only [Go.IntWalk.toNatUp] at hx230_0)
        replace p230 := eq_true p230
        replace q230 := eq_true q230
        go_wp2
        go_meet
        case rel => exact ⟨_, (decide ((rd l2 (x11_1.length : Int)) ≥ 0)), (by first | rfl | (simp; done) | (simp [*]; done)), H', ⟨by have := HK1.out; first | omega | exact Nat.le_refl _⟩, ⟨by (with_reducible repeat (first | apply rrA | apply rrN | apply rrD)); exact HO_11.out⟩, ⟨by (with_reducible repeat (first | apply rrA | apply rrN | apply rrD)); exact Kd.R_mono HO229.out (fun _ hk => hk.2)⟩, ⟨by (with_reducible repeat (first | apply rrA | apply rrN | apply rrD)); exact Kd.R_mono HO_224003.out (fun _ hk => hk.2)⟩, ⟨by (with_reducible repeat (first | apply rrA | apply rrN | apply rrD)); exact HO_224004.out⟩, ⟨by (with_reducible repeat (first | refine bN ?_ _ | refine bD ?_ | refine bA ?_ _)); exact BK211.out⟩, ⟨by (with_reducible repeat (first | refine bN ?_ _ | refine bD ?_ | refine bA ?_ _)); exact BK223.out⟩, ⟨by repeat (first | (with_reducible first | exact HB.out | apply lA | apply lN | apply lD | refine lS ?_ GE211.out | refine lS ?_ GE223.out) | exact HB.out)⟩⟩
       ·rw [if_neg c39] at H
        exact absurd H (by simp)
      ·rw [if_neg c38] at H
       have c38b0 : decide ((x11_1.length : Int) < (l2.length : Int)) = false := decide_eq_false c38
       have c38b1 : decide (x11_1.length < l2.length) = false := decide_eq_false (fun h => c38 (Int.ofNat_lt.mpr h))
       clear c38
       (first | rw [c38b0] | (simp only [i64_w, i32_w]; rw [c38b0]) | skip)
       have H' := aaM H
       clear H
       go_wp2
       go_meet
       case rel => exact ⟨_, (false), (by first | rfl | (simp; done) | (simp [*]; done)), H', ⟨by have := HK1.out; first | omega | exact Nat.le_refl _⟩, ⟨by (with_reducible repeat (first | apply rrA | apply rrN | apply rrD)); exact HO_11.out⟩, ⟨by (with_reducible repeat (first | apply rrA | apply rrN | apply rrD)); exact Kd.R_mono HO229.out (fun _ hk => hk.2)⟩, ⟨by (with_reducible repeat (first | apply rrA | apply rrN | apply rrD)); exact Kd.R_mono HO_224003.out (fun _ hk => hk.2)⟩, ⟨by (with_reducible repeat (first | apply rrA | apply rrN | apply rrD)); exact HO_224004.out⟩, ⟨by (with_reducible repeat (first | refine bN ?_ _ | refine bD ?_ | refine bA ?_ _)); exact BK211.out⟩, ⟨by (with_reducible repeat (first | refine bN ?_ _ | refine bD ?_ | refine bA ?_ _)); exact BK223.out⟩, ⟨by repeat (first | (with_reducible first | exact HB.out | apply lA | apply lN | apply lD | refine lS ?_ GE211.out | refine lS ?_ GE223.out) | exact HB.out)⟩⟩
     case rest =>
      clear HC30
      try clear c1
      try clear c2
      try clear p2
      try clear q2
      try clear hx2
      try clear c3
      try clear c4
      try clear c5
      try clear c5b0
      try clear c5b1
      try clear c9
      try clear c16
      try clear c16b0
      try clear c16b1
      try clear c16b2
      try clear c17
      try clear c23
      try clear p23
      try clear q23
      try clear hx23
      try clear c31
      try clear c38
      try clear c38b0
      try clear c38b1
      try clear c39
      try clear c39b0
      try clear c39b1
      try clear hcz10_0
      try clear hcz10_1
      try clear hcz10_2
      try clear hcz10_3
      try clear hcz10_4
      try clear hcz10_5
      try clear hcz18_0
      try clear hcz18_1
      try clear hcz18_2
      try clear hcz18_3
      try clear hcz18_4
      try clear hcz18_5
      try clear hcz32_0
      try clear hcz32_1
      try clear hcz32_2
      try clear hcz32_3
      try clear hcz32_4
      try clear hcz32_5
      try clear hfz10_0
      try clear hfz10_1
      try clear hfz10_2
      try clear hfz10_3
      try clear hfz10_4
      try clear hfz10_5
      try clear hfz18_0
      try clear hfz18_1
      try clear hfz18_2
      try clear hfz18_3
      try clear hfz18_4
      try clear hfz18_5
      try clear hfz32_0
      try clear hfz32_1
      try clear hfz32_2
      try clear hfz32_3
      try clear hfz32_4
      try clear hfz32_5
      try clear hx230_0
      try clear p2
      try clear p230
      try clear q230
      obtain ⟨kq, x48_29, rfl, HA, HJ29, HO_11, HO_12, HO_224003, HO_224004, BK211, BK223, HB⟩ := hcut
      cases kq with
      | zero => exact absurd HA.out (by simp [hornbeamref21_Play.j1])
      | succ kj29 =>
       have H := HA.out
       clear HA
       simp only [hornbeamref21_Play.j1] at H
       have HC40 := aaM H
       clear H
       go_upto_if 48 with (fail)
       go_cut [13] (fun v13 wc => ∃ (kq : Nat) (x13_39 : Int), v13 = .int .i64 x13_39 ∧ Aside0 (hornbeamref21_Play.j2 kq l2 x11_1 t227 x13_39 x224000_1 x224001_1 x224002_1 x224003_1 x224004_1 x224005_1 = some (r1, r2, r3, r4, r5, r6, r7, r8)) ∧ Aside0 (kq ≤ kj29) ∧ Aside0 (Kd.R k52 52 wc w.heap.size (fun _ => True) (.slice Ao37 x11_1.length co37) x11_1) ∧ Aside0 (Kd.R (Kd.int .i64) 3 wc w.heap.size (fun k_ => some k_ ≠ ((.slice Ao33 x224003_1.length co33) : Value).ownBlock) (.slice Ao36 t227.length co36) t227) ∧ Aside0 (Kd.R (Kd.int .i64) 3 wc w.heap.size (fun k_ => some k_ ≠ ((.slice Ao36 t227.length co36) : Value).ownBlock) (.slice Ao33 x224003_1.length co33) x224003_1) ∧ Aside0 (Kd.R Kd.bool 4 wc w.heap.size (fun _ => True) (.slice Ao34 x224004_1.length co34) x224004_1) ∧ Aside0 (wc.heap[gb211]? = some (.cells #[.int .i64 x212000_1, .int .i64 x212001_1, .int .i64 x212002_1, (.slice none 0 0), (.slice none 0 0), .bool x212005_1] 42 (0, 0))) ∧ Aside0 (wc.heap[gb223]? = some (.cells #[.int .i64 x224000_1, .int .i64 x224001_1, .int .i64 x224002_1, (.slice Ao33 x224003_1.length co33), (.slice Ao34 x224004_1.length co34), .bool x224005_1] 42 (0, 0))) ∧ Aside0 (Below w.heap.size w wc))
       case first =>
        have H := HC40.out
        clear HC40
        by_cases c41 : x48_29 = true
        ·subst c41
         have H1 : (if 0 ≤ (x11_1.length : Int) then (if (x11_1.length : Int) < (l2.length : Int) then (if (t227.length : Int) = 0 then (none) else (hornbeamref21_Play.j2 kj29 l2 x11_1 t227 (wrap64 ((rd l2 (x11_1.length : Int)) - (wrap64 ((wrap64 (Int.tdiv (rd l2 (x11_1.length : Int)) (t227.length : Int))) * (t227.length : Int))))) x224000_1 x224001_1 x224002_1 x224003_1 x224004_1 x224005_1)) else (none)) else (none)) = some (r1, r2, r3, r4, r5, r6, r7, r8) := by rw [if_pos rfl] at H; exact H
         clear H
         have H := H1
         clear H1
         by_cases c42 : 0 ≤ (x11_1.length : Int)
         ·rw [if_pos c42] at H
          have c42b0 : decide (0 ≤ (x11_1.length : Int)) = true := decide_eq_true c42
          have c42b1 : decide (0 ≤ x11_1.length) = true := decide_eq_true (by omega)
          clear c42
          (first | rw [c42b0] | (simp only [i64_w, i32_w]; rw [c42b0]) | skip)
          by_cases c43 : (x11_1.length : Int) < (l2.length : Int)
          ·rw [if_pos c43] at H
           have c43b0 : decide ((x11_1.length : Int) < (l2.length : Int)) = true := decide_eq_true c43
           have c43b1 : decide (x11_1.length < l2.length) = true := decide_eq_true (Int.ofNat_lt.mp c43)
           clear c43
           by_cases c44 : (t227.length : Int) = 0
           ·rw [if_pos c44] at H
            exact absurd H (by simp)
           ·rw [if_neg c44] at H
            have c44b0 : ((t227.length : Int) == 0) = false := beq_eq_false_iff_ne.mpr c44
            have c44b1 : ((t227.length : Int) != 0) = true := bne_iff_ne.mpr c44
            have c44b2 : ¬ (t227 = []) := fun h_ => c44 (by rw [h_]; rfl)
            have H' := aaM H
            clear H
            try go_wp2
            have n0_ := aaM (rrD HO_11.out)
            have n1_ := aaM (rrD HO_12.out)
            have n2_ := aaM (rrD HO_224003.out)
            have n3_ := aaM (rrD HO_224004.out)
            have n4_ := aaM (bD BK211.out)
            have n5_ := aaM (bD BK223.out)
            have n6_ := aaM (lD HB.out)
            clear HO_11 HO_12 HO_224003 HO_224004 BK211 BK223 HB
            have HO_11 := n0_
            have HO_12 := n1_
            have HO_224003 := n2_
            have HO_224004 := n3_
            have BK211 := n4_
            have BK223 := n5_
            have HB := n6_
            clear n0_ n1_ n2_ n3_ n4_ n5_ n6_
            have p231 : 0 ≤ ((x11_1.length : Int) : Int) := of_decide_eq_true (by first | (with_reducible assumption) | assumption)
            have q231 : (x11_1.length : Int) < (l2.length : Int) := of_decide_eq_true (by first | (with_reducible assumption) | assumption)
            obtain ⟨ad231, e231, hx231_0⟩ := Kd.at_int HR2.out (x11_1.length : Int) p231 q231
            have hw231_0 := hx231_0
            cases e231
            replace hx231_0 := (HB.out.cell (World.block_lt_of_cell? w _ hx231_0)).trans hx231_0
            (try simp only [Go.IntWalk.toNatUp] at hx231_0)
            replace p231 := eq_true p231
            replace q231 := eq_true q231
            have p232 : 0 ≤ ((x11_1.length : Int) : Int) := of_decide_eq_true (by first | (with_reducible assumption) | assumption)
            have q232 : (x11_1.length : Int) < (l2.length : Int) := of_decide_eq_true (by first | (with_reducible assumption) | assumption)
            obtain ⟨ad232, e232, hx232_0⟩ := Kd.at_int HR2.out (x11_1.length : Int) p232 q232
            have hw232_0 := hx232_0
            obtain rfl : ad231 = ad232 := (by injection e232)
            replace hx232_0 := (HB.out.cell (World.block_lt_of_cell? w _ hx232_0)).trans hx232_0
            (try simp only [Go.IntWalk.toNatUp] at hx232_0)
            replace p232 := eq_true p232
            replace q232 := eq_true q232
            refine start_ (n := 16) (S := fun w' => w'.cell? (ad231.add ((x11_1.length : Int)).toNat) = some (.int .i64 (rd l2 (x11_1.length : Int))) ∧ w'.cell? (ad231.add ((x11_1.length : Int)).toNat) = some (.int .i64 (rd l2 (x11_1.length : Int)))) (ds := []) #[false, false, false, false, false, false, false, false, false, false, false, false, false, false, false, false] (by kernel_rfl) rfl rfl ⟨((HB.out.cell (World.block_lt_of_cell? w _ hw231_0)).trans hw231_0), ((HB.out.cell (World.block_lt_of_cell? w _ hw232_0)).trans hw232_0)⟩ (fun hHeld => ?_); refine with_tabW hornbeamref21_Play.tab11 hornbeamref21_Play.bits11 (fun HT_ HW_ => ?_)
            generalize wc.drew = w45 at HO_11 HO_12 HO_224003 HO_224004 BK211 BK223 HB hx231_0 hx232_0 hHeld ⊢
            refine pure_ (i := 0) (N := some 49) (v := ?_) (a' := ?_) #[true, false, false, false, false, false, false, false, false, false, false, false, false, false, false, false] rfl rfl (any_of HT_.out (by kernel_rfl)) (fun _ _ _ h => h) (Or.inl ⟨by rfl, ?_⟩) ?_ ?_
            rotate_left
            ·intro w'
             go_simp
             with_reducible rfl
            rotate_left
            ·simp only [Act.put, ssB, ssZ, ssS, i64_w, i32_w]
             rfl
            refine pure_ (i := 1) (N := some 50) (v := ?_) (a' := ?_) #[true, true, false, false, false, false, false, false, false, false, false, false, false, false, false, false] rfl rfl (any_of HT_.out (by kernel_rfl)) (fun _ _ _ h => h) (Or.inl ⟨by rfl, ?_⟩) ?_ ?_
            rotate_left
            ·intro w'
             go_simp
             with_reducible rfl
            rotate_left
            ·simp only [Act.put, ssB, ssZ, ssS, i64_w, i32_w]
             rfl
            refine pure_ (i := 2) (N := some 51) (v := ?_) (a' := ?_) #[true, true, true, false, false, false, false, false, false, false, false, false, false, false, false, false] rfl rfl (any_of HT_.out (by kernel_rfl)) (fun _ _ _ h => h) (Or.inl ⟨by rfl, ?_⟩) ?_ ?_
            rotate_left
            ·intro w'
             go_simp
             with_reducible rfl
            rotate_left
            ·simp only [Act.put, ssB, ssZ, ssS, i64_w, i32_w]
             rfl
            refine pure_ (i := 4) (N := some 53) (v := ?_) (a' := ?_) #[true, true, true, false, true, false, false, false, false, false, false, false, false, false, false, false] rfl rfl (any_of HT_.out (by kernel_rfl)) (fun _ _ _ h => h) (Or.inl ⟨by rfl, ?_⟩) ?_ ?_
            rotate_left
            ·intro w'
             go_simp
             with_reducible rfl
            rotate_left
            ·simp only [Act.put, ssB, ssZ, ssS, i64_w, i32_w]
             rfl
            refine pure_ (i := 5) (N := some 54) (v := ?_) (a' := ?_) #[true, true, true, false, true, true, false, false, false, false, false, false, false, false, false, false] rfl rfl (any_of HT_.out (by kernel_rfl)) (fun _ _ _ h => h) (Or.inl ⟨by rfl, ?_⟩) ?_ ?_
            rotate_left
            ·intro w'
             go_simp
             with_reducible rfl
            rotate_left
            ·simp only [Act.put, ssB, ssZ, ssS, i64_w, i32_w]
             rfl
            refine pure_ (i := 6) (N := some 55) (v := ?_) (a' := ?_) #[true, true, true, false, true, true, true, false, false, false, false, false, false, false, false, false] rfl rfl (any_of HT_.out (by kernel_rfl)) (fun _ _ _ h => h) (Or.inl ⟨by rfl, ?_⟩) ?_ ?_
            rotate_left
            ·intro w'
             go_simp
             with_reducible rfl
            rotate_left
            ·simp only [Act.put, ssB, ssZ, ssS, i64_w, i32_w]
             rfl
            refine pure_ (i := 8) (N := some 57) (v := ?_) (a' := ?_) #[true, true, true, false, true, true, true, false, true, false, false, false, false, false, false, false] rfl rfl (any_of HT_.out (by kernel_rfl)) (fun _ _ _ h => h) (Or.inl ⟨by rfl, ?_⟩) ?_ ?_
            rotate_left
            ·intro w'
             go_simp
             with_reducible rfl
            rotate_left
            ·simp only [Act.put, ssB, ssZ, ssS, i64_w, i32_w]
             rfl
            refine pure_ (i := 9) (N := some 58) (v := ?_) (a' := ?_) #[true, true, true, false, true, true, true, false, true, true, false, false, false, false, false, false] rfl rfl (any_of HT_.out (by kernel_rfl)) (fun _ _ _ h => h) (Or.inl ⟨by rfl, ?_⟩) ?_ ?_
            rotate_left
            ·intro w'
             go_simp
             with_reducible rfl
            rotate_left
            ·simp only [Act.put, ssB, ssZ, ssS, i64_w, i32_w]
             rfl
            refine pure_ (i := 11) (N := some 60) (v := ?_) (a' := ?_) #[true, true, true, false, true, true, true, false, true, true, false, true, false, false, false, false] rfl rfl (any_of HT_.out (by kernel_rfl)) (fun _ _ _ h => h) (Or.inl ⟨by rfl, ?_⟩) ?_ ?_
            rotate_left
            ·intro w'
             go_simp
             with_reducible rfl
            rotate_left
            ·simp only [Act.put, ssB, ssZ, ssS, i64_w, i32_w]
             rfl
            refine pure_ (i := 12) (N := some 61) (v := ?_) (a' := ?_) #[true, true, true, false, true, true, true, false, true, true, false, true, true, false, false, false] rfl rfl (any_of HT_.out (by kernel_rfl)) (fun _ _ _ h => h) (Or.inl ⟨by rfl, ?_⟩) ?_ ?_
            rotate_left
            ·intro w'
             go_simp
             with_reducible rfl
            rotate_left
            ·simp only [Act.put, ssB, ssZ, ssS, i64_w, i32_w]
             rfl
            refine take_ (i := 3) (N := some 52) (v := ?_) (a' := ?_) #[true, true, true, true, true, true, true, false, true, true, false, true, true, false, false, false] rfl rfl (take_ofW HT_.out HW_.out (by kernel_rfl)) (fun _ _ _ h => h) (Or.inl ⟨by rfl, ?_⟩) hHeld ?_ ?_
            rotate_left
            ·rintro w' ⟨s0, s1⟩
             (try simp only [Int.toNat_natCast] at s0 s1)
             go_simp
             with_reducible rfl
            rotate_left
            ·simp only [Act.put, ssB, ssZ, ssS, i64_w, i32_w]
             rfl
            refine take_ (i := 7) (N := some 56) (v := ?_) (a' := ?_) #[true, true, true, true, true, true, true, true, true, true, false, true, true, false, false, false] rfl rfl (take_ofW HT_.out HW_.out (by kernel_rfl)) (fun _ _ _ h => h) (Or.inl ⟨by rfl, ?_⟩) hHeld ?_ ?_
            rotate_left
            ·rintro w' ⟨s0, s1⟩
             (try simp only [Int.toNat_natCast] at s0 s1)
             go_simp
             with_reducible rfl
            rotate_left
            ·simp only [Act.put, ssB, ssZ, ssS, i64_w, i32_w]
             rfl
            refine pure_ (i := 10) (N := some 59) (v := ?_) (a' := ?_) #[true, true, true, true, true, true, true, true, true, true, true, true, true, false, false, false] rfl rfl (any_of HT_.out (by kernel_rfl)) (fun _ _ _ h => h) (Or.inl ⟨by rfl, ?_⟩) ?_ ?_
            rotate_left
            ·intro w'
             go_simp
             with_reducible rfl
            rotate_left
            ·simp only [Act.put, ssB, ssZ, ssS, i64_w, i32_w]
             rfl
            refine pure_ (i := 13) (N := some 62) (v := ?_) (a' := ?_) #[true, true, true, true, true, true, true, true, true, true, true, true, true, true, false, false] rfl rfl (any_of HT_.out (by kernel_rfl)) (fun _ _ _ h => h) (Or.inl ⟨by rfl, ?_⟩) ?_ ?_
            rotate_left
            ·intro w'
             go_simp
             with_reducible rfl
            rotate_left
            ·simp only [Act.put, ssB, ssZ, ssS, i64_w, i32_w]
             rfl
            refine pure_ (i := 14) (N := some 63) (v := ?_) (a' := ?_) #[true, true, true, true, true, true, true, true, true, true, true, true, true, true, true, false] rfl rfl (any_of HT_.out (by kernel_rfl)) (fun _ _ _ h => h) (Or.inl ⟨by rfl, ?_⟩) ?_ ?_
            rotate_left
            ·intro w'
             go_simp
             with_reducible rfl
            rotate_left
            ·simp only [Act.put, ssB, ssZ, ssS, i64_w, i32_w]
             rfl
            refine pure_ (i := 15) (N := some 13) (v := ?_) (a' := ?_) #[true, true, true, true, true, true, true, true, true, true, true, true, true, true, true, true] rfl rfl (any_of HT_.out (by kernel_rfl)) (fun _ _ _ h => h) (Or.inl ⟨by rfl, ?_⟩) ?_ ?_
            rotate_left
            ·intro w'
             go_simp
             with_reducible rfl
            rotate_left
            ·simp only [Act.put, ssB, ssZ, ssS, i64_w, i32_w]
             rfl
            refine done_ (done_of HT_.out (by kernel_rfl)) ?_
            try go_wp2
            go_meet
            case rel => exact ⟨_, (wrap64 ((rd l2 (x11_1.length : Int)) - (wrap64 ((wrap64 (Int.tdiv (rd l2 (x11_1.length : Int)) (t227.length : Int))) * (t227.length : Int))))), (by first | rfl | (simp; done) | (simp [*]; done)), H', ⟨by have := HK1.out; have := HJ29.out; first | omega | exact Nat.le_refl _⟩, ⟨by (with_reducible repeat (first | apply rrA | apply rrN | apply rrD)); exact HO_11.out⟩, ⟨by (with_reducible repeat (first | apply rrA | apply rrN | apply rrD)); exact HO_12.out⟩, ⟨by (with_reducible repeat (first | apply rrA | apply rrN | apply rrD)); exact HO_224003.out⟩, ⟨by (with_reducible repeat (first | apply rrA | apply rrN | apply rrD)); exact HO_224004.out⟩, ⟨by (with_reducible repeat (first | refine bN ?_ _ | refine bD ?_ | refine bA ?_ _)); exact BK211.out⟩, ⟨by (with_reducible repeat (first | refine bN ?_ _ | refine bD ?_ | refine bA ?_ _)); exact BK223.out⟩, ⟨by repeat (first | (with_reducible first | exact HB.out | apply lA | apply lN | apply lD | refine lS ?_ GE211.out | refine lS ?_ GE223.out) | exact HB.out)⟩⟩
          ·rw [if_neg c43] at H
           exact absurd H (by simp)
         ·rw [if_neg c42] at H
          exact absurd H (by simp)
        ·replace c41 := Bool.eq_false_iff.mpr c41
         subst c41
         have H1 : (hornbeamref21_Play.j2 kj29 l2 x11_1 t227 0 x224000_1 x224001_1 x224002_1 x224003_1 x224004_1 x224005_1) = some (r1, r2, r3, r4, r5, r6, r7, r8) := by rw [if_neg (show ¬ (false = true) by decide)] at H; exact H
         clear H
         have H := H1
         clear H1
         have H' := aaM H
         clear H
         go_wp2
         go_meet
         case rel => exact ⟨_, (0), (by first | rfl | (simp; done) | (simp [*]; done)), H', ⟨by have := HK1.out; have := HJ29.out; first | omega | exact Nat.le_refl _⟩, ⟨by (with_reducible repeat (first | apply rrA | apply rrN | apply rrD)); exact HO_11.out⟩, ⟨by (with_reducible repeat (first | apply rrA | apply rrN | apply rrD)); exact HO_12.out⟩, ⟨by (with_reducible repeat (first | apply rrA | apply rrN | apply rrD)); exact HO_224003.out⟩, ⟨by (with_reducible repeat (first | apply rrA | apply rrN | apply rrD)); exact HO_224004.out⟩, ⟨by (with_reducible repeat (first | refine bN ?_ _ | refine bD ?_ | refine bA ?_ _)); exact BK211.out⟩, ⟨by (with_reducible repeat (first | refine bN ?_ _ | refine bD ?_ | refine bA ?_ _)); exact BK223.out⟩, ⟨by repeat (first | (with_reducible first | exact HB.out | apply lA | apply lN | apply lD | refine lS ?_ GE211.out | refine lS ?_ GE223.out) | exact HB.out)⟩⟩
       case rest =>
        clear HC40
        try clear c1
        try clear c2
        try clear p2
        try clear q2
        try clear hx2
        try clear c3
        try clear c4
        try clear c5
        try clear c5b0
        try clear c5b1
        try clear p6
        try clear c9
        try clear c16
        try clear c16b0
        try clear c16b1
        try clear c16b2
        try clear c17
        try clear c23
        try clear p23
        try clear q23
        try clear hx23
        try clear c31
        try clear c38
        try clear c38b0
        try clear c38b1
        try clear c39
        try clear c39b0
        try clear c39b1
        try clear c40
        try clear c41
        try clear c42
        try clear c42b0
        try clear c42b1
        try clear c43
        try clear c43b0
        try clear c43b1
        try clear c44
        try clear c44b0
        try clear c44b1
        try clear c44b2
        try clear hcz10_0
        try clear hcz10_1
        try clear hcz10_2
        try clear hcz10_3
        try clear hcz10_4
        try clear hcz10_5
        try clear hcz18_0
        try clear hcz18_1
        try clear hcz18_2
        try clear hcz18_3
        try clear hcz18_4
        try clear hcz18_5
        try clear hcz32_0
        try clear hcz32_1
        try clear hcz32_2
        try clear hcz32_3
        try clear hcz32_4
        try clear hcz32_5
        try clear hfz10_0
        try clear hfz10_1
        try clear hfz10_2
        try clear hfz10_3
        try clear hfz10_4
        try clear hfz10_5
        try clear hfz18_0
        try clear hfz18_1
        try clear hfz18_2
        try clear hfz18_3
        try clear hfz18_4
        try clear hfz18_5
        try clear hfz32_0
        try clear hfz32_1
        try clear hfz32_2
        try clear hfz32_3
        try clear hfz32_4
        try clear hfz32_5
        try clear hx230_0
        try clear hx231_0
        try clear hx232_0
        try clear p2
        try clear p23
        try clear p230
        try clear p231
        try clear p232
        try clear q2
        try clear q23
        try clear q230
        try clear q231
        try clear q232
        obtain ⟨kq, x13_39, rfl, HA, HJ39, HO_11, HO_12, HO_224003, HO_224004, BK211, BK223, HB⟩ := hcut
        cases kq with
        | zero => exact absurd HA.out (by simp [hornbeamref21_Play.j2])
        | succ kj39 =>
         have H := HA.out
         clear HA
         simp only [hornbeamref21_Play.j2] at H
         by_cases c46 : 0 ≤ x13_39
         ·rw [if_pos c46] at H
          have c46b0 : decide (0 ≤ x13_39) = true := decide_eq_true c46
          clear c46
          by_cases c47 : x13_39 < (t227.length : Int)
          ·rw [if_pos c47] at H
           have c47b0 : decide (x13_39 < (t227.length : Int)) = true := decide_eq_true c47
           clear c47
           replace H := ooB.mp H
           obtain ⟨⟨t234, t235, t236, t237, t240, t243, t244, t245, t246, t247⟩, A480, H⟩ := H
           replace H : (if x11_1.length < 5864062014805 then (hornbeamref21_Play.l0 kj39 l2 (x11_1 ++ [(⟨t244, t245, t246⟩ : S52)]) t234 t235 t236 t237 t240 t243) else (none)) = some (r1, r2, r3, r4, r5, r6, r7, r8) := H
           have A48 := aaM A480
           clear A480
           by_cases c49 : x11_1.length < 5864062014805
           ·rw [if_pos c49] at H
            have LMc49 := aaM c49
            clear c49
            obtain ⟨y250, hy250⟩ : ∃ y_ : List (S52), y_ = (x11_1 ++ [(⟨t244, t245, t246⟩ : S52)]) := ⟨_, rfl⟩
            replace H : (hornbeamref21_Play.l0 kj39 l2 y250 t234 t235 t236 t237 t240 t243) = some (r1, r2, r3, r4, r5, r6, r7, r8) := by first | (rw [hy250]; with_reducible exact H) | (have H2_ := (Option.bind_some _ _).symm.trans H; rw [hy250]; with_reducible exact H2_) | (have H2_ := (Option.bind_some _ _).symm.trans H; with_reducible exact H2_) | with_reducible exact H | (rw [hy250]; exact H) | exact H
            have Ny250 := aaM hy250
            clear hy250
            have H' := aaM H
            clear H
            try go_wp2
            have n0_ := aaM (rrD HO_11.out)
            have n1_ := aaM (rrD HO_12.out)
            have n2_ := aaM (rrD HO_224003.out)
            have n3_ := aaM (rrD HO_224004.out)
            have n4_ := aaM (bD BK211.out)
            have n5_ := aaM (bD BK223.out)
            have n6_ := aaM (lD HB.out)
            clear HO_11 HO_12 HO_224003 HO_224004 BK211 BK223 HB
            have HO_11 := n0_
            have HO_12 := n1_
            have HO_224003 := n2_
            have HO_224004 := n3_
            have BK211 := n4_
            have BK223 := n5_
            have HB := n6_
            clear n0_ n1_ n2_ n3_ n4_ n5_ n6_
            have p233 : 0 ≤ (x13_39 : Int) := of_decide_eq_true (by first | (with_reducible assumption) | assumption)
            have q233 : x13_39 < (t227.length : Int) := of_decide_eq_true (by first | (with_reducible assumption) | assumption)
            obtain ⟨ad233, e233, hx233_0⟩ := Kd.at_int (Kd.R_reads' HO_12.out).2.2 x13_39 p233 q233
            cases e233
            replace p233 := eq_true p233
            replace q233 := eq_true q233
            refine start_ (n := 15) (S := fun w' => w'.cell? ⟨gb223, 0, none⟩ = some (.int .i64 x224000_1) ∧ w'.cell? ⟨gb223, 1, none⟩ = some (.int .i64 x224001_1) ∧ w'.cell? ⟨gb223, 2, none⟩ = some (.int .i64 x224002_1) ∧ w'.cell? ⟨gb223, 3, none⟩ = some (.slice Ao33 x224003_1.length co33) ∧ w'.cell? ⟨gb223, 4, none⟩ = some (.slice Ao34 x224004_1.length co34) ∧ w'.cell? ⟨gb223, 5, none⟩ = some (.bool x224005_1) ∧ w'.cell? (ad233.add (x13_39).toNat) = some (.int .i64 (rd t227 x13_39))) (ds := []) #[false, false, false, false, false, false, false, false, false, false, false, false, false, false, false] (by kernel_rfl) rfl rfl ⟨(bC BK223.out 0).trans rfl, (bC BK223.out 1).trans rfl, (bC BK223.out 2).trans rfl, (bC BK223.out 3).trans rfl, (bC BK223.out 4).trans rfl, (bC BK223.out 5).trans rfl, hx233_0⟩ (fun hHeld => ?_); refine with_tabW hornbeamref21_Play.tab12 hornbeamref21_Play.bits12 (fun HT_ HW_ => ?_)
            generalize wc.drew = w50 at HO_11 HO_12 HO_224003 HO_224004 BK211 BK223 HB hx233_0 hHeld ⊢
            refine pure_ (i := 1) (N := some 66) (v := ?_) (a' := ?_) #[false, true, false, false, false, false, false, false, false, false, false, false, false, false, false] rfl rfl (any_of HT_.out (by kernel_rfl)) (fun _ _ _ h => h) (Or.inl ⟨by rfl, ?_⟩) ?_ ?_
            rotate_left
            ·intro w'
             go_simp
             with_reducible rfl
            rotate_left
            ·simp only [Act.put, ssB, ssZ, ssS, i64_w, i32_w]
             rfl
            refine pure_ (i := 2) (N := some 67) (v := ?_) (a' := ?_) #[false, true, true, false, false, false, false, false, false, false, false, false, false, false, false] rfl rfl (any_of HT_.out (by kernel_rfl)) (fun _ _ _ h => h) (Or.inl ⟨by rfl, ?_⟩) ?_ ?_
            rotate_left
            ·intro w'
             go_simp
             with_reducible rfl
            rotate_left
            ·simp only [Act.put, ssB, ssZ, ssS, i64_w, i32_w]
             rfl
            refine pure_ (i := 3) (N := some 68) (v := ?_) (a' := ?_) #[false, true, true, true, false, false, false, false, false, false, false, false, false, false, false] rfl rfl (any_of HT_.out (by kernel_rfl)) (fun _ _ _ h => h) (Or.inl ⟨by rfl, ?_⟩) ?_ ?_
            rotate_left
            ·intro w'
             go_simp
             with_reducible rfl
            rotate_left
            ·simp only [Act.put, ssB, ssZ, ssS, i64_w, i32_w]
             rfl
            refine take_ (i := 0) (N := some 65) (v := ?_) (a' := ?_) #[true, true, true, true, false, false, false, false, false, false, false, false, false, false, false] rfl rfl (take_ofW HT_.out HW_.out (by kernel_rfl)) (fun _ _ _ h => h) (Or.inl ⟨by rfl, ?_⟩) hHeld ?_ ?_
            rotate_left
            ·rintro w' ⟨s0, s1, s2, s3, s4, s5, s6⟩
             (try simp only [Int.toNat_natCast] at s0 s1 s2 s3 s4 s5 s6)
             go_simp
             with_reducible rfl
            rotate_left
            ·simp only [Act.put, ssB, ssZ, ssS, i64_w, i32_w]
             rfl
            refine take_ (i := 4) (N := some 69) (v := ?_) (a' := ?_) #[true, true, true, true, true, false, false, false, false, false, false, false, false, false, false] rfl rfl (take_ofW HT_.out HW_.out (by kernel_rfl)) (fun _ _ _ h => h) (Or.inl ⟨by rfl, ?_⟩) hHeld ?_ ?_
            rotate_left
            ·rintro w' ⟨s0, s1, s2, s3, s4, s5, s6⟩
             (try simp only [Int.toNat_natCast] at s0 s1 s2 s3 s4 s5 s6)
             go_simp
             with_reducible rfl
            rotate_left
            ·simp only [Act.put, ssB, ssZ, ssS, i64_w, i32_w]
             rfl
            refine join_ (σ := Value × Value × Nat × Nat) 3 #[true, true, true, true, true, true, true, true, true, true, true, true, false, false, false] (fun s_ => [(70, .tuple #[.agg #[.int .i64 t234, .int .i64 t235, .int .i64 t236, s_.1, s_.2.1, .bool t243], .agg #[.int .i64 t244, .int .i64 t245, .int .i64 t246], .int .i64 t247]), (15, .pointer (some ⟨s_.2.2.1, 0, none⟩)), (16, .pointer (some ⟨s_.2.2.2, 0, none⟩)), (64, .tuple #[.agg #[.int .i64 t234, .int .i64 t235, .int .i64 t236, s_.1, s_.2.1, .bool t243], .agg #[.int .i64 t244, .int .i64 t245, .int .i64 t246], .int .i64 t247]), (71, .agg #[.int .i64 t234, .int .i64 t235, .int .i64 t236, s_.1, s_.2.1, .bool t243]), (72, .agg #[.int .i64 t244, .int .i64 t245, .int .i64 t246]), (73, .int .i64 t247)]) (fun s_ w' => (w'.cell? ⟨gb223, 0, none⟩ = some (.int .i64 x224000_1) ∧ w'.cell? ⟨gb223, 1, none⟩ = some (.int .i64 x224001_1) ∧ w'.cell? ⟨gb223, 2, none⟩ = some (.int .i64 x224002_1) ∧ w'.cell? ⟨gb223, 3, none⟩ = some (.slice Ao33 x224003_1.length co33) ∧ w'.cell? ⟨gb223, 4, none⟩ = some (.slice Ao34 x224004_1.length co34) ∧ w'.cell? ⟨gb223, 5, none⟩ = some (.bool x224005_1) ∧ w'.cell? (ad233.add (x13_39).toNat) = some (.int .i64 (rd t227 x13_39))) ∧ (Kd.R (Kd.int .i64) 3 w' w.heap.size (fun k_ => some k_ ≠ (.slice (some ad233) t227.length co36 : Value).ownBlock ∧ some k_ ≠ (.slice Ao33 x224003_1.length co33 : Value).ownBlock) s_.1 t237) ∧ (Kd.R Kd.bool 4 w' w.heap.size (fun k_ => some k_ ≠ (.slice Ao34 x224004_1.length co34 : Value).ownBlock) s_.2.1 t240) ∧ (Kd.R k52 52 w' w.heap.size (fun k_ => k_ ≠ s_.2.2.2) (.slice Ao37 x11_1.length co37) x11_1) ∧ (Kd.R (Kd.int .i64) 3 w' w.heap.size (fun k_ => some k_ ≠ (s_.1 : Value).ownBlock ∧ some k_ ≠ (.slice Ao33 x224003_1.length co33 : Value).ownBlock) (.slice (some ad233) t227.length co36) t227) ∧ (Kd.R (Kd.int .i64) 3 w' w.heap.size (fun k_ => some k_ ≠ (s_.1 : Value).ownBlock ∧ some k_ ≠ (.slice (some ad233) t227.length co36 : Value).ownBlock) (.slice Ao33 x224003_1.length co33) x224003_1) ∧ (Kd.R Kd.bool 4 w' w.heap.size (fun k_ => some k_ ≠ (s_.2.1 : Value).ownBlock) (.slice Ao34 x224004_1.length co34) x224004_1) ∧ (w'.heap[gb211]? = some (.cells #[.int .i64 x212000_1, .int .i64 x212001_1, .int .i64 x212002_1, .slice none 0 0, .slice none 0 0, .bool x212005_1] 42 (0, 0))) ∧ (w'.heap[gb223]? = some (.cells #[.int .i64 x224000_1, .int .i64 x224001_1, .int .i64 x224002_1, .slice Ao33 x224003_1.length co33, .slice Ao34 x224004_1.length co34, .bool x224005_1] 42 (0, 0))) ∧ (w'.heap[s_.2.2.1]? = some (.cells #[.int .i64 0, .int .i64 0, .int .i64 0, .slice none 0 0, .slice none 0 0, .bool false] 42 (0, 0))) ∧ (w'.heap[s_.2.2.2]? = some (.cells #[.int .i64 0, .int .i64 0, .int .i64 0] 52 (0, 0))) ∧ (w.heap.size ≤ s_.2.2.1) ∧ (w.heap.size ≤ s_.2.2.1) ∧ (gb211 ≠ s_.2.2.1) ∧ (s_.2.2.1 ≠ gb211) ∧ (gb223 ≠ s_.2.2.1) ∧ (s_.2.2.1 ≠ gb223) ∧ (s_.2.2.2 ≠ s_.2.2.1) ∧ (s_.2.2.1 ≠ s_.2.2.2) ∧ (w.heap.size ≤ s_.2.2.2) ∧ (w.heap.size ≤ s_.2.2.2) ∧ (gb211 ≠ s_.2.2.2) ∧ (s_.2.2.2 ≠ gb211) ∧ (gb223 ≠ s_.2.2.2) ∧ (s_.2.2.2 ≠ gb223) ∧ (Below w.heap.size w w')) ?_ ?_
            rotate_left
            ·intro hJ5_10_11
             refine join_ (σ := Value × Value × Nat) 4 #[true, true, true, true, true, true, true, true, true, true, true, false, false, false, false] (fun s_ => [(70, .tuple #[.agg #[.int .i64 t234, .int .i64 t235, .int .i64 t236, s_.1, s_.2.1, .bool t243], .agg #[.int .i64 t244, .int .i64 t245, .int .i64 t246], .int .i64 t247]), (15, .pointer (some ⟨s_.2.2, 0, none⟩)), (64, .tuple #[.agg #[.int .i64 t234, .int .i64 t235, .int .i64 t236, s_.1, s_.2.1, .bool t243], .agg #[.int .i64 t244, .int .i64 t245, .int .i64 t246], .int .i64 t247]), (71, .agg #[.int .i64 t234, .int .i64 t235, .int .i64 t236, s_.1, s_.2.1, .bool t243]), (72, .agg #[.int .i64 t244, .int .i64 t245, .int .i64 t246]), (73, .int .i64 t247)]) (fun s_ w' => (w'.cell? ⟨gb223, 0, none⟩ = some (.int .i64 x224000_1) ∧ w'.cell? ⟨gb223, 1, none⟩ = some (.int .i64 x224001_1) ∧ w'.cell? ⟨gb223, 2, none⟩ = some (.int .i64 x224002_1) ∧ w'.cell? ⟨gb223, 3, none⟩ = some (.slice Ao33 x224003_1.length co33) ∧ w'.cell? ⟨gb223, 4, none⟩ = some (.slice Ao34 x224004_1.length co34) ∧ w'.cell? ⟨gb223, 5, none⟩ = some (.bool x224005_1) ∧ w'.cell? (ad233.add (x13_39).toNat) = some (.int .i64 (rd t227 x13_39))) ∧ (Kd.R (Kd.int .i64) 3 w' w.heap.size (fun k_ => some k_ ≠ (.slice (some ad233) t227.length co36 : Value).ownBlock ∧ some k_ ≠ (.slice Ao33 x224003_1.length co33 : Value).ownBlock) s_.1 t237) ∧ (Kd.R Kd.bool 4 w' w.heap.size (fun k_ => some k_ ≠ (.slice Ao34 x224004_1.length co34 : Value).ownBlock) s_.2.1 t240) ∧ (Kd.R k52 52 w' w.heap.size (fun _ => True) (.slice Ao37 x11_1.length co37) x11_1) ∧ (Kd.R (Kd.int .i64) 3 w' w.heap.size (fun k_ => some k_ ≠ (s_.1 : Value).ownBlock ∧ some k_ ≠ (.slice Ao33 x224003_1.length co33 : Value).ownBlock) (.slice (some ad233) t227.length co36) t227) ∧ (Kd.R (Kd.int .i64) 3 w' w.heap.size (fun k_ => some k_ ≠ (s_.1 : Value).ownBlock ∧ some k_ ≠ (.slice (some ad233) t227.length co36 : Value).ownBlock) (.slice Ao33 x224003_1.length co33) x224003_1) ∧ (Kd.R Kd.bool 4 w' w.heap.size (fun k_ => some k_ ≠ (s_.2.1 : Value).ownBlock) (.slice Ao34 x224004_1.length co34) x224004_1) ∧ (w'.heap[gb211]? = some (.cells #[.int .i64 x212000_1, .int .i64 x212001_1, .int .i64 x212002_1, .slice none 0 0, .slice none 0 0, .bool x212005_1] 42 (0, 0))) ∧ (w'.heap[gb223]? = some (.cells #[.int .i64 x224000_1, .int .i64 x224001_1, .int .i64 x224002_1, .slice Ao33 x224003_1.length co33, .slice Ao34 x224004_1.length co34, .bool x224005_1] 42 (0, 0))) ∧ (w'.heap[s_.2.2]? = some (.cells #[.int .i64 0, .int .i64 0, .int .i64 0, .slice none 0 0, .slice none 0 0, .bool false] 42 (0, 0))) ∧ (w.heap.size ≤ s_.2.2) ∧ (w.heap.size ≤ s_.2.2) ∧ (gb211 ≠ s_.2.2) ∧ (s_.2.2 ≠ gb211) ∧ (gb223 ≠ s_.2.2) ∧ (s_.2.2 ≠ gb223) ∧ (Below w.heap.size w w')) ?_ ?_
             rotate_left
             ·intro hJ5_10
              refine join_ (σ := Value × Value × Nat) 4 #[true, true, true, true, true, true, true, true, true, true, false, true, false, false, false] (fun s_ => [(70, .tuple #[.agg #[.int .i64 t234, .int .i64 t235, .int .i64 t236, s_.1, s_.2.1, .bool t243], .agg #[.int .i64 t244, .int .i64 t245, .int .i64 t246], .int .i64 t247]), (16, .pointer (some ⟨s_.2.2, 0, none⟩)), (64, .tuple #[.agg #[.int .i64 t234, .int .i64 t235, .int .i64 t236, s_.1, s_.2.1, .bool t243], .agg #[.int .i64 t244, .int .i64 t245, .int .i64 t246], .int .i64 t247]), (71, .agg #[.int .i64 t234, .int .i64 t235, .int .i64 t236, s_.1, s_.2.1, .bool t243]), (72, .agg #[.int .i64 t244, .int .i64 t245, .int .i64 t246]), (73, .int .i64 t247)]) (fun s_ w' => (w'.cell? ⟨gb223, 0, none⟩ = some (.int .i64 x224000_1) ∧ w'.cell? ⟨gb223, 1, none⟩ = some (.int .i64 x224001_1) ∧ w'.cell? ⟨gb223, 2, none⟩ = some (.int .i64 x224002_1) ∧ w'.cell? ⟨gb223, 3, none⟩ = some (.slice Ao33 x224003_1.length co33) ∧ w'.cell? ⟨gb223, 4, none⟩ = some (.slice Ao34 x224004_1.length co34) ∧ w'.cell? ⟨gb223, 5, none⟩ = some (.bool x224005_1) ∧ w'.cell? (ad233.add (x13_39).toNat) = some (.int .i64 (rd t227 x13_39))) ∧ (Kd.R (Kd.int .i64) 3 w' w.heap.size (fun k_ => some k_ ≠ (.slice (some ad233) t227.length co36 : Value).ownBlock ∧ some k_ ≠ (.slice Ao33 x224003_1.length co33 : Value).ownBlock) s_.1 t237) ∧ (Kd.R Kd.bool 4 w' w.heap.size (fun k_ => some k_ ≠ (.slice Ao34 x224004_1.length co34 : Value).ownBlock) s_.2.1 t240) ∧ (Kd.R k52 52 w' w.heap.size (fun k_ => k_ ≠ s_.2.2) (.slice Ao37 x11_1.length co37) x11_1) ∧ (Kd.R (Kd.int .i64) 3 w' w.heap.size (fun k_ => some k_ ≠ (s_.1 : Value).ownBlock ∧ some k_ ≠ (.slice Ao33 x224003_1.length co33 : Value).ownBlock) (.slice (some ad233) t227.length co36) t227) ∧ (Kd.R (Kd.int .i64) 3 w' w.heap.size (fun k_ => some k_ ≠ (s_.1 : Value).ownBlock ∧ some k_ ≠ (.slice (some ad233) t227.length co36 : Value).ownBlock) (.slice Ao33 x224003_1.length co33) x224003_1) ∧ (Kd.R Kd.bool 4 w' w.heap.size (fun k_ => some k_ ≠ (s_.2.1 : Value).ownBlock) (.slice Ao34 x224004_1.length co34) x224004_1) ∧ (w'.heap[gb211]? = some (.cells #[.int .i64 x212000_1, .int .i64 x212001_1, .int .i64 x212002_1, .slice none 0 0, .slice none 0 0, .bool x212005_1] 42 (0, 0))) ∧ (w'.heap[gb223]? = some (.cells #[.int .i64 x224000_1, .int .i64 x224001_1, .int .i64 x224002_1, .slice Ao33 x224003_1.length co33, .slice Ao34 x224004_1.length co34, .bool x224005_1] 42 (0, 0))) ∧ (w'.heap[s_.2.2]? = some (.cells #[.int .i64 0, .int .i64 0, .int .i64 0] 52 (0, 0))) ∧ (w.heap.size ≤ s_.2.2) ∧ (w.heap.size ≤ s_.2.2) ∧ (gb211 ≠ s_.2.2) ∧ (s_.2.2 ≠ gb211) ∧ (gb223 ≠ s_.2.2) ∧ (s_.2.2 ≠ gb223) ∧ (Below w.heap.size w w')) ?_ ?_
              rotate_left
              ·intro hJ5_11
               refine join_ (σ := Nat × Nat) 8 #[true, true, true, true, true, false, false, false, false, false, true, true, false, false, false] (fun s_ => [(15, .pointer (some ⟨s_.1, 0, none⟩)), (16, .pointer (some ⟨s_.2, 0, none⟩))]) (fun s_ w' => (w'.cell? ⟨gb223, 0, none⟩ = some (.int .i64 x224000_1) ∧ w'.cell? ⟨gb223, 1, none⟩ = some (.int .i64 x224001_1) ∧ w'.cell? ⟨gb223, 2, none⟩ = some (.int .i64 x224002_1) ∧ w'.cell? ⟨gb223, 3, none⟩ = some (.slice Ao33 x224003_1.length co33) ∧ w'.cell? ⟨gb223, 4, none⟩ = some (.slice Ao34 x224004_1.length co34) ∧ w'.cell? ⟨gb223, 5, none⟩ = some (.bool x224005_1) ∧ w'.cell? (ad233.add (x13_39).toNat) = some (.int .i64 (rd t227 x13_39))) ∧ (Kd.R k52 52 w' w.heap.size (fun k_ => k_ ≠ s_.2) (.slice Ao37 x11_1.length co37) x11_1) ∧ (Kd.R (Kd.int .i64) 3 w' w.heap.size (fun k_ => some k_ ≠ (.slice Ao33 x224003_1.length co33 : Value).ownBlock) (.slice (some ad233) t227.length co36) t227) ∧ (Kd.R (Kd.int .i64) 3 w' w.heap.size (fun k_ => some k_ ≠ (.slice (some ad233) t227.length co36 : Value).ownBlock) (.slice Ao33 x224003_1.length co33) x224003_1) ∧ (Kd.R Kd.bool 4 w' w.heap.size (fun _ => True) (.slice Ao34 x224004_1.length co34) x224004_1) ∧ (w'.heap[gb211]? = some (.cells #[.int .i64 x212000_1, .int .i64 x212001_1, .int .i64 x212002_1, .slice none 0 0, .slice none 0 0, .bool x212005_1] 42 (0, 0))) ∧ (w'.heap[gb223]? = some (.cells #[.int .i64 x224000_1, .int .i64 x224001_1, .int .i64 x224002_1, .slice Ao33 x224003_1.length co33, .slice Ao34 x224004_1.length co34, .bool x224005_1] 42 (0, 0))) ∧ (w'.heap[s_.1]? = some (.cells #[.int .i64 0, .int .i64 0, .int .i64 0, .slice none 0 0, .slice none 0 0, .bool false] 42 (0, 0))) ∧ (w'.heap[s_.2]? = some (.cells #[.int .i64 0, .int .i64 0, .int .i64 0] 52 (0, 0))) ∧ (w.heap.size ≤ s_.1) ∧ (w.heap.size ≤ s_.1) ∧ (gb211 ≠ s_.1) ∧ (s_.1 ≠ gb211) ∧ (gb223 ≠ s_.1) ∧ (s_.1 ≠ gb223) ∧ (s_.2 ≠ s_.1) ∧ (s_.1 ≠ s_.2) ∧ (w.heap.size ≤ s_.2) ∧ (w.heap.size ≤ s_.2) ∧ (gb211 ≠ s_.2) ∧ (s_.2 ≠ gb211) ∧ (gb223 ≠ s_.2) ∧ (s_.2 ≠ gb223) ∧ (Below w.heap.size w w')) ?_ ?_
               rotate_left
               ·intro hJ10_11
                refine join_ (σ := Value × Value) 5 #[true, true, true, true, true, true, true, true, true, true, false, false, false, false, false] (fun s_ => [(70, .tuple #[.agg #[.int .i64 t234, .int .i64 t235, .int .i64 t236, s_.1, s_.2, .bool t243], .agg #[.int .i64 t244, .int .i64 t245, .int .i64 t246], .int .i64 t247]), (64, .tuple #[.agg #[.int .i64 t234, .int .i64 t235, .int .i64 t236, s_.1, s_.2, .bool t243], .agg #[.int .i64 t244, .int .i64 t245, .int .i64 t246], .int .i64 t247]), (71, .agg #[.int .i64 t234, .int .i64 t235, .int .i64 t236, s_.1, s_.2, .bool t243]), (72, .agg #[.int .i64 t244, .int .i64 t245, .int .i64 t246]), (73, .int .i64 t247)]) (fun s_ w' => (w'.cell? ⟨gb223, 0, none⟩ = some (.int .i64 x224000_1) ∧ w'.cell? ⟨gb223, 1, none⟩ = some (.int .i64 x224001_1) ∧ w'.cell? ⟨gb223, 2, none⟩ = some (.int .i64 x224002_1) ∧ w'.cell? ⟨gb223, 3, none⟩ = some (.slice Ao33 x224003_1.length co33) ∧ w'.cell? ⟨gb223, 4, none⟩ = some (.slice Ao34 x224004_1.length co34) ∧ w'.cell? ⟨gb223, 5, none⟩ = some (.bool x224005_1) ∧ w'.cell? (ad233.add (x13_39).toNat) = some (.int .i64 (rd t227 x13_39))) ∧ (Kd.R (Kd.int .i64) 3 w' w.heap.size (fun k_ => some k_ ≠ (.slice (some ad233) t227.length co36 : Value).ownBlock ∧ some k_ ≠ (.slice Ao33 x224003_1.length co33 : Value).ownBlock) s_.1 t237) ∧ (Kd.R Kd.bool 4 w' w.heap.size (fun k_ => some k_ ≠ (.slice Ao34 x224004_1.length co34 : Value).ownBlock) s_.2 t240) ∧ (Kd.R k52 52 w' w.heap.size (fun _ => True) (.slice Ao37 x11_1.length co37) x11_1) ∧ (Kd.R (Kd.int .i64) 3 w' w.heap.size (fun k_ => some k_ ≠ (s_.1 : Value).ownBlock ∧ some k_ ≠ (.slice Ao33 x224003_1.length co33 : Value).ownBlock) (.slice (some ad233) t227.length co36) t227) ∧ (Kd.R (Kd.int .i64) 3 w' w.heap.size (fun k_ => some k_ ≠ (s_.1 : Value).ownBlock ∧ some k_ ≠ (.slice (some ad233) t227.length co36 : Value).ownBlock) (.slice Ao33 x224003_1.length co33) x224003_1) ∧ (Kd.R Kd.bool 4 w' w.heap.size (fun k_ => some k_ ≠ (s_.2 : Value).ownBlock) (.slice Ao34 x224004_1.length co34) x224004_1) ∧ (w'.heap[gb211]? = some (.cells #[.int .i64 x212000_1, .int .i64 x212001_1, .int .i64 x212002_1, .slice none 0 0, .slice none 0 0, .bool x212005_1] 42 (0, 0))) ∧ (w'.heap[gb223]? = some (.cells #[.int .i64 x224000_1, .int .i64 x224001_1, .int .i64 x224002_1, .slice Ao33 x224003_1.length co33, .slice Ao34 x224004_1.length co34, .bool x224005_1] 42 (0, 0))) ∧ (Below w.heap.size w w')) ?_ ?_
                rotate_left
                ·intro hJ5
                 refine join_ (σ := Nat) 9 #[true, true, true, true, true, false, false, false, false, false, true, false, false, false, false] (fun s_ => [(15, .pointer (some ⟨s_, 0, none⟩))]) (fun s_ w' => (w'.cell? ⟨gb223, 0, none⟩ = some (.int .i64 x224000_1) ∧ w'.cell? ⟨gb223, 1, none⟩ = some (.int .i64 x224001_1) ∧ w'.cell? ⟨gb223, 2, none⟩ = some (.int .i64 x224002_1) ∧ w'.cell? ⟨gb223, 3, none⟩ = some (.slice Ao33 x224003_1.length co33) ∧ w'.cell? ⟨gb223, 4, none⟩ = some (.slice Ao34 x224004_1.length co34) ∧ w'.cell? ⟨gb223, 5, none⟩ = some (.bool x224005_1) ∧ w'.cell? (ad233.add (x13_39).toNat) = some (.int .i64 (rd t227 x13_39))) ∧ (Kd.R k52 52 w' w.heap.size (fun _ => True) (.slice Ao37 x11_1.length co37) x11_1) ∧ (Kd.R (Kd.int .i64) 3 w' w.heap.size (fun k_ => some k_ ≠ (.slice Ao33 x224003_1.length co33 : Value).ownBlock) (.slice (some ad233) t227.length co36) t227) ∧ (Kd.R (Kd.int .i64) 3 w' w.heap.size (fun k_ => some k_ ≠ (.slice (some ad233) t227.length co36 : Value).ownBlock) (.slice Ao33 x224003_1.length co33) x224003_1) ∧ (Kd.R Kd.bool 4 w' w.heap.size (fun _ => True) (.slice Ao34 x224004_1.length co34) x224004_1) ∧ (w'.heap[gb211]? = some (.cells #[.int .i64 x212000_1, .int .i64 x212001_1, .int .i64 x212002_1, .slice none 0 0, .slice none 0 0, .bool x212005_1] 42 (0, 0))) ∧ (w'.heap[gb223]? = some (.cells #[.int .i64 x224000_1, .int .i64 x224001_1, .int .i64 x224002_1, .slice Ao33 x224003_1.length co33, .slice Ao34 x224004_1.length co34, .bool x224005_1] 42 (0, 0))) ∧ (w'.heap[s_]? = some (.cells #[.int .i64 0, .int .i64 0, .int .i64 0, .slice none 0 0, .slice none 0 0, .bool false] 42 (0, 0))) ∧ (w.heap.size ≤ s_) ∧ (w.heap.size ≤ s_) ∧ (gb211 ≠ s_) ∧ (s_ ≠ gb211) ∧ (gb223 ≠ s_) ∧ (s_ ≠ gb223) ∧ (Below w.heap.size w w')) ?_ ?_
                 rotate_left
                 ·intro hJ10
                  refine join_ (σ := Nat) 9 #[true, true, true, true, true, false, false, false, false, false, false, true, false, false, false] (fun s_ => [(16, .pointer (some ⟨s_, 0, none⟩))]) (fun s_ w' => (w'.cell? ⟨gb223, 0, none⟩ = some (.int .i64 x224000_1) ∧ w'.cell? ⟨gb223, 1, none⟩ = some (.int .i64 x224001_1) ∧ w'.cell? ⟨gb223, 2, none⟩ = some (.int .i64 x224002_1) ∧ w'.cell? ⟨gb223, 3, none⟩ = some (.slice Ao33 x224003_1.length co33) ∧ w'.cell? ⟨gb223, 4, none⟩ = some (.slice Ao34 x224004_1.length co34) ∧ w'.cell? ⟨gb223, 5, none⟩ = some (.bool x224005_1) ∧ w'.cell? (ad233.add (x13_39).toNat) = some (.int .i64 (rd t227 x13_39))) ∧ (Kd.R k52 52 w' w.heap.size (fun k_ => k_ ≠ s_) (.slice Ao37 x11_1.length co37) x11_1) ∧ (Kd.R (Kd.int .i64) 3 w' w.heap.size (fun k_ => some k_ ≠ (.slice Ao33 x224003_1.length co33 : Value).ownBlock) (.slice (some ad233) t227.length co36) t227) ∧ (Kd.R (Kd.int .i64) 3 w' w.heap.size (fun k_ => some k_ ≠ (.slice (some ad233) t227.length co36 : Value).ownBlock) (.slice Ao33 x224003_1.length co33) x224003_1) ∧ (Kd.R Kd.bool 4 w' w.heap.size (fun _ => True) (.slice Ao34 x224004_1.length co34) x224004_1) ∧ (w'.heap[gb211]? = some (.cells #[.int .i64 x212000_1, .int .i64 x212001_1, .int .i64 x212002_1, .slice none 0 0, .slice none 0 0, .bool x212005_1] 42 (0, 0))) ∧ (w'.heap[gb223]? = some (.cells #[.int .i64 x224000_1, .int .i64 x224001_1, .int .i64 x224002_1, .slice Ao33 x224003_1.length co33, .slice Ao34 x224004_1.length co34, .bool x224005_1] 42 (0, 0))) ∧ (w'.heap[s_]? = some (.cells #[.int .i64 0, .int .i64 0, .int .i64 0] 52 (0, 0))) ∧ (w.heap.size ≤ s_) ∧ (w.heap.size ≤ s_) ∧ (gb211 ≠ s_) ∧ (s_ ≠ gb211) ∧ (gb223 ≠ s_) ∧ (s_ ≠ gb223) ∧ (Below w.heap.size w w')) ?_ ?_
                  rotate_left
                  ·intro hJ11
                   refine three_ (i := 5) (j := 10) (k := 11) (Ni := some 70) (Nj := some 15) (Nk := some 16) #[true, true, true, true, true, true, false, false, false, false, false, false, false, false, false] #[true, true, true, true, true, false, false, false, false, false, true, false, false, false, false] #[true, true, true, true, true, false, false, false, false, false, false, true, false, false, false] rfl rfl rfl rfl rfl rfl (three_of HT_.out (by kernel_rfl)) (by decide) (by decide) (by decide) (fun K hK => ?_) (fun K hK => ?_) (fun K hK => ?_)
                   ·skip
                    refine goes_ Try.func37 (by kernel_rfl) rfl #[.agg #[.int .i64 x224000_1, .int .i64 x224001_1, .int .i64 x224002_1, .slice Ao33 x224003_1.length co33, .slice Ao34 x224004_1.length co34, .bool x224005_1], .int .i64 (rd t227 x13_39)] (by rfl) rfl rfl (by (try simp only [List.map_toArray, List.map_cons, List.map_nil]); first | done | rfl | (simp only [List.length_drop, List.length_take]; rfl)) ?_
                    with_reducible refine (hornbeamref21_Step.calls kj39 x224000_1 x224001_1 x224002_1 _ _ x224003_1 _ _ x224004_1 x224005_1 (rd t227 x13_39) t234 t235 t236 t237 t240 t243 t244 t245 t246 t247 _ ?side1 ?side2 ?side3 ?side4 A48.out).mono ?_
                    (case side1 => repeat (first | exact (Kd.R_reads' HO_224003.out).2.2 | (with_reducible refine ccA ?_ _) | (with_reducible refine ccN ?_ _) | (with_reducible refine ccD ?_)))
                    (case side2 => exact (Kd.R_reads' HO_224003.out).2.1)
                    (case side3 => repeat (first | exact (Kd.R_reads' HO_224004.out).2.2 | (with_reducible refine ccA ?_ _) | (with_reducible refine ccN ?_ _) | (with_reducible refine ccD ?_)))
                    (case side4 => exact (Kd.R_reads' HO_224004.out).2.1)
                    rintro e w51 ⟨v238, v241, rfl, ho0, ho1, hb⟩
                    have HS6_ := (hb.cell (World.block_lt_of_cell? _ _ (hHeld.2.2.2.2.2.2))).trans (hHeld.2.2.2.2.2.2)
                    refine ⟨_, rfl, ?_⟩
                    have n0_ := aaM (rrB (by (with_reducible repeat (first | apply rrA | apply rrN | apply rrD)); exact HO_11.out) hb)
                    have n1_ := aaM (Kd.R_elder' (by (with_reducible repeat (first | apply rrA | apply rrN | apply rrD)); exact HO_12.out) (Kd.R_base ho0) hb)
                    have n2_ := aaM (Kd.R_elder' (by (with_reducible repeat (first | apply rrA | apply rrN | apply rrD)); exact HO_224003.out) (Kd.R_base ho0) hb)
                    have n3_ := aaM (Kd.R_elder' (by (with_reducible repeat (first | apply rrA | apply rrN | apply rrD)); exact HO_224004.out) (Kd.R_base ho1) hb)
                    have n4_ := aaM (Kd.R_lower (Kd.R_new' (Kd.R_new' ho0 (Kd.R_lt (by (with_reducible repeat (first | apply rrA | apply rrN | apply rrD)); exact HO_12.out))) (Kd.R_lt (by (with_reducible repeat (first | apply rrA | apply rrN | apply rrD)); exact HO_224003.out))) (lZ (by repeat (first | (with_reducible first | exact HB.out | apply lA | apply lN | apply lD | refine lS ?_ GE211.out | refine lS ?_ GE223.out) | exact HB.out))))
                    have n5_ := aaM (Kd.R_lower (Kd.R_new' ho1 (Kd.R_lt (by (with_reducible repeat (first | apply rrA | apply rrN | apply rrD)); exact HO_224004.out))) (lZ (by repeat (first | (with_reducible first | exact HB.out | apply lA | apply lN | apply lD | refine lS ?_ GE211.out | refine lS ?_ GE223.out) | exact HB.out))))
                    have n6_ := aaM (bB (g := gb211) (o := .cells #[.int .i64 x212000_1, .int .i64 x212001_1, .int .i64 x212002_1, .slice none 0 0, .slice none 0 0, .bool x212005_1] 42 (0, 0)) (by (with_reducible repeat (first | refine bN ?_ _ | refine bD ?_ | refine bA ?_ _)); exact BK211.out) hb)
                    have n7_ := aaM (bB (g := gb223) (o := .cells #[.int .i64 x224000_1, .int .i64 x224001_1, .int .i64 x224002_1, .slice Ao33 x224003_1.length co33, .slice Ao34 x224004_1.length co34, .bool x224005_1] 42 (0, 0)) (by (with_reducible repeat (first | refine bN ?_ _ | refine bD ?_ | refine bA ?_ _)); exact BK223.out) hb)
                    have n8_ := aaM (lP (by repeat (first | (with_reducible first | exact HB.out | apply lA | apply lN | apply lD | refine lS ?_ GE211.out | refine lS ?_ GE223.out) | exact HB.out)) hb)
                    clear HO_11 HO_12 HO_224003 HO_224004 BK211 BK223 HB
                    have HO_11 := n0_
                    have HO_12 := n1_
                    have HO_224003 := n2_
                    have HO_224004 := n3_
                    have HO239 := n4_
                    have HO242 := n5_
                    have BK211 := n6_
                    have BK223 := n7_
                    have HB := n8_
                    clear n0_ n1_ n2_ n3_ n4_ n5_ n6_ n7_ n8_
                    (try clear hb)
                    (try clear hb2)
                    (try clear hk)
                    (try clear hi)
                    (try clear ho0)
                    (try clear ho1)
                    refine hK.out _ _ ⟨(bC BK223.out 0).trans rfl, (bC BK223.out 1).trans rfl, (bC BK223.out 2).trans rfl, (bC BK223.out 3).trans rfl, (bC BK223.out 4).trans rfl, (bC BK223.out 5).trans rfl, HS6_⟩ (fun hHeld => ?_)
                    clear hK K
                    refine norm_ (a' := ?_) ?_ ?_
                    rotate_left
                    ·show Act.put _ (some 70) _ = _
                     simp only [Act.put, ssB, ssZ, ssS, i64_w, i32_w]
                     rfl
                    refine pure_ (i := 6) (N := some 64) (v := ?_) (a' := ?_) #[true, true, true, true, true, true, true, false, false, false, false, false, false, false, false] rfl rfl (any_of HT_.out (by kernel_rfl)) (fun _ _ _ h => h) (Or.inl ⟨by rfl, ?_⟩) ?_ ?_
                    rotate_left
                    ·intro w'
                     go_simp
                     with_reducible rfl
                    rotate_left
                    ·simp only [Act.put, ssB, ssZ, ssS, i64_w, i32_w]
                     rfl
                    refine pure_ (i := 7) (N := some 71) (v := ?_) (a' := ?_) #[true, true, true, true, true, true, true, true, false, false, false, false, false, false, false] rfl rfl (any_of HT_.out (by kernel_rfl)) (fun _ _ _ h => h) (Or.inl ⟨by rfl, ?_⟩) ?_ ?_
                    rotate_left
                    ·intro w'
                     go_simp
                     with_reducible rfl
                    rotate_left
                    ·simp only [Act.put, ssB, ssZ, ssS, i64_w, i32_w]
                     rfl
                    refine pure_ (i := 8) (N := some 72) (v := ?_) (a' := ?_) #[true, true, true, true, true, true, true, true, true, false, false, false, false, false, false] rfl rfl (any_of HT_.out (by kernel_rfl)) (fun _ _ _ h => h) (Or.inl ⟨by rfl, ?_⟩) ?_ ?_
                    rotate_left
                    ·intro w'
                     go_simp
                     with_reducible rfl
                    rotate_left
                    ·simp only [Act.put, ssB, ssZ, ssS, i64_w, i32_w]
                     rfl
                    refine pure_ (i := 9) (N := some 73) (v := ?_) (a' := ?_) #[true, true, true, true, true, true, true, true, true, true, false, false, false, false, false] rfl rfl (any_of HT_.out (by kernel_rfl)) (fun _ _ _ h => h) (Or.inl ⟨by rfl, ?_⟩) ?_ ?_
                    rotate_left
                    ·intro w'
                     go_simp
                     with_reducible rfl
                    rotate_left
                    ·simp only [Act.put, ssB, ssZ, ssS, i64_w, i32_w]
                     rfl
                    exact norm_ (by first | (simp only [putAll, Act.put, ssB, ssZ, ssS]; done) | (simp only [putAll, Act.put, ssB, ssZ, ssS]; rfl)) (hJ5 (v238, v241) _ ⟨hHeld, (by (with_reducible repeat (first | apply rrA | apply rrN | apply rrD)); exact Kd.R_mono HO239.out (fun _ hk => ⟨hk.1.2, hk.2⟩)), (by (with_reducible repeat (first | apply rrA | apply rrN | apply rrD)); exact Kd.R_mono HO242.out (fun _ hk => hk.2)), (by (with_reducible repeat (first | apply rrA | apply rrN | apply rrD)); exact HO_11.out), (by (with_reducible repeat (first | apply rrA | apply rrN | apply rrD)); exact Kd.R_mono HO_12.out (fun _ hk => ⟨hk.2, hk.1⟩)), (by (with_reducible repeat (first | apply rrA | apply rrN | apply rrD)); exact Kd.R_mono HO_224003.out (fun _ hk => ⟨hk.2, hk.1⟩)), (by (with_reducible repeat (first | apply rrA | apply rrN | apply rrD)); exact Kd.R_mono HO_224004.out (fun _ hk => hk.2)), (by (with_reducible repeat (first | refine bN ?_ _ | refine bD ?_ | refine bA ?_ _)); exact BK211.out), (by (with_reducible repeat (first | refine bN ?_ _ | refine bD ?_ | refine bA ?_ _)); exact BK223.out), (by repeat (first | (with_reducible first | exact HB.out | apply lA | apply lN | apply lD | refine lS ?_ GE211.out | refine lS ?_ GE223.out) | exact HB.out))⟩)
                   ·skip
                    refine box_step ?hg (N := 15) ?hd (cs := #[.int .i64 0, .int .i64 0, .int .i64 0, .slice none 0 0, .slice none 0 0, .bool false]) (t := 42) ?hr ?_; (case hd => rfl); (case hg => rfl); (case hr => first | (go_simp; done) | (go_simp; rfl))
                    intro gb248 hg w51 hbox hb
                    have HS6_ := (hb.cell (World.block_lt_of_cell? _ _ (hHeld.2.2.2.2.2.2))).trans (hHeld.2.2.2.2.2.2)
                    have n0_ := aaM (rrB (by (with_reducible repeat (first | apply rrA | apply rrN | apply rrD)); exact HO_11.out) hb)
                    have n1_ := aaM (rrB (by (with_reducible repeat (first | apply rrA | apply rrN | apply rrD)); exact HO_12.out) hb)
                    have n2_ := aaM (rrB (by (with_reducible repeat (first | apply rrA | apply rrN | apply rrD)); exact HO_224003.out) hb)
                    have n3_ := aaM (rrB (by (with_reducible repeat (first | apply rrA | apply rrN | apply rrD)); exact HO_224004.out) hb)
                    have n4_ := aaM (bB (g := gb211) (o := .cells #[.int .i64 x212000_1, .int .i64 x212001_1, .int .i64 x212002_1, .slice none 0 0, .slice none 0 0, .bool x212005_1] 42 (0, 0)) (by (with_reducible repeat (first | refine bN ?_ _ | refine bD ?_ | refine bA ?_ _)); exact BK211.out) hb)
                    have n5_ := aaM (bB (g := gb223) (o := .cells #[.int .i64 x224000_1, .int .i64 x224001_1, .int .i64 x224002_1, .slice Ao33 x224003_1.length co33, .slice Ao34 x224004_1.length co34, .bool x224005_1] 42 (0, 0)) (by (with_reducible repeat (first | refine bN ?_ _ | refine bD ?_ | refine bA ?_ _)); exact BK223.out) hb)
                    have n6_ := aaM (lP (by repeat (first | (with_reducible first | exact HB.out | apply lA | apply lN | apply lD | refine lS ?_ GE211.out | refine lS ?_ GE223.out) | exact HB.out)) hb)
                    have n7_ := aaM (hbox)
                    have n8_ := aaM ((by rw [hg]; exact (lZ (by repeat (first | (with_reducible first | exact HB.out | apply lA | apply lN | apply lD | refine lS ?_ GE211.out | refine lS ?_ GE223.out) | exact HB.out))) : w.heap.size ≤ gb248))
                    have n9_ := aaM ((by rw [hg]; exact (lZ (by repeat (first | (with_reducible first | exact HB.out | apply lA | apply lN | apply lD | refine lS ?_ GE211.out | refine lS ?_ GE223.out) | exact HB.out))) : w.heap.size ≤ gb248))
                    have n10_ := aaM ((by rw [hg]; exact Nat.ne_of_lt (bL (g := gb211) (by (with_reducible repeat (first | refine bN ?_ _ | refine bD ?_ | refine bA ?_ _)); exact BK211.out)) : gb211 ≠ gb248))
                    have n11_ := aaM ((by rw [hg]; exact Nat.ne_of_gt (bL (g := gb211) (by (with_reducible repeat (first | refine bN ?_ _ | refine bD ?_ | refine bA ?_ _)); exact BK211.out)) : gb248 ≠ gb211))
                    have n12_ := aaM ((by rw [hg]; exact Nat.ne_of_lt (bL (g := gb223) (by (with_reducible repeat (first | refine bN ?_ _ | refine bD ?_ | refine bA ?_ _)); exact BK223.out)) : gb223 ≠ gb248))
                    have n13_ := aaM ((by rw [hg]; exact Nat.ne_of_gt (bL (g := gb223) (by (with_reducible repeat (first | refine bN ?_ _ | refine bD ?_ | refine bA ?_ _)); exact BK223.out)) : gb248 ≠ gb223))
                    clear HO_11 HO_12 HO_224003 HO_224004 BK211 BK223 HB
                    have HO_11 := n0_
                    have HO_12 := n1_
                    have HO_224003 := n2_
                    have HO_224004 := n3_
                    have BK211 := n4_
                    have BK223 := n5_
                    have HB := n6_
                    have BK248 := n7_
                    have GW248 := n8_
                    have GE248 := n9_
                    have NB211_248 := n10_
                    have NB248_211 := n11_
                    have NB223_248 := n12_
                    have NB248_223 := n13_
                    clear n0_ n1_ n2_ n3_ n4_ n5_ n6_ n7_ n8_ n9_ n10_ n11_ n12_ n13_ hb hbox hg
                    refine hK.out _ _ ⟨(bC BK223.out 0).trans rfl, (bC BK223.out 1).trans rfl, (bC BK223.out 2).trans rfl, (bC BK223.out 3).trans rfl, (bC BK223.out 4).trans rfl, (bC BK223.out 5).trans rfl, HS6_⟩ (fun hHeld => ?_)
                    clear hK K
                    refine norm_ (a' := ?_) ?_ ?_
                    rotate_left
                    ·show Act.put _ (some 15) _ = _
                     simp only [Act.put, ssB, ssZ, ssS, i64_w, i32_w]
                     rfl
                    exact norm_ (by first | (simp only [putAll, Act.put, ssB, ssZ, ssS]; done) | (simp only [putAll, Act.put, ssB, ssZ, ssS]; rfl)) (hJ10 (gb248) _ ⟨hHeld, (by (with_reducible repeat (first | apply rrA | apply rrN | apply rrD)); exact HO_11.out), (by (with_reducible repeat (first | apply rrA | apply rrN | apply rrD)); exact HO_12.out), (by (with_reducible repeat (first | apply rrA | apply rrN | apply rrD)); exact HO_224003.out), (by (with_reducible repeat (first | apply rrA | apply rrN | apply rrD)); exact HO_224004.out), (by (with_reducible repeat (first | refine bN ?_ _ | refine bD ?_ | refine bA ?_ _)); exact BK211.out), (by (with_reducible repeat (first | refine bN ?_ _ | refine bD ?_ | refine bA ?_ _)); exact BK223.out), (by (with_reducible repeat (first | refine bN ?_ _ | refine bD ?_ | refine bA ?_ _)); exact BK248.out), GW248.out, GE248.out, NB211_248.out, NB248_211.out, NB223_248.out, NB248_223.out, (by repeat (first | (with_reducible first | exact HB.out | apply lA | apply lN | apply lD | refine lS ?_ GE211.out | refine lS ?_ GE223.out | refine lS ?_ GE248.out) | exact HB.out))⟩)
                   ·skip
                    refine box_step ?hg (N := 16) ?hd (cs := #[.int .i64 0, .int .i64 0, .int .i64 0]) (t := 52) ?hr ?_; (case hd => rfl); (case hg => rfl); (case hr => first | (go_simp; done) | (go_simp; rfl))
                    intro gb249 hg w51 hbox hb
                    have HS6_ := (hb.cell (World.block_lt_of_cell? _ _ (hHeld.2.2.2.2.2.2))).trans (hHeld.2.2.2.2.2.2)
                    have n0_ := aaM (rrB (Kd.R_elderB (by (with_reducible repeat (first | apply rrA | apply rrN | apply rrD)); exact HO_11.out) gb249 (Nat.le_of_eq hg.symm)) hb)
                    have n1_ := aaM (rrB (by (with_reducible repeat (first | apply rrA | apply rrN | apply rrD)); exact HO_12.out) hb)
                    have n2_ := aaM (rrB (by (with_reducible repeat (first | apply rrA | apply rrN | apply rrD)); exact HO_224003.out) hb)
                    have n3_ := aaM (rrB (by (with_reducible repeat (first | apply rrA | apply rrN | apply rrD)); exact HO_224004.out) hb)
                    have n4_ := aaM (bB (g := gb211) (o := .cells #[.int .i64 x212000_1, .int .i64 x212001_1, .int .i64 x212002_1, .slice none 0 0, .slice none 0 0, .bool x212005_1] 42 (0, 0)) (by (with_reducible repeat (first | refine bN ?_ _ | refine bD ?_ | refine bA ?_ _)); exact BK211.out) hb)
                    have n5_ := aaM (bB (g := gb223) (o := .cells #[.int .i64 x224000_1, .int .i64 x224001_1, .int .i64 x224002_1, .slice Ao33 x224003_1.length co33, .slice Ao34 x224004_1.length co34, .bool x224005_1] 42 (0, 0)) (by (with_reducible repeat (first | refine bN ?_ _ | refine bD ?_ | refine bA ?_ _)); exact BK223.out) hb)
                    have n6_ := aaM (lP (by repeat (first | (with_reducible first | exact HB.out | apply lA | apply lN | apply lD | refine lS ?_ GE211.out | refine lS ?_ GE223.out) | exact HB.out)) hb)
                    have n7_ := aaM (hbox)
                    have n8_ := aaM ((by rw [hg]; exact (lZ (by repeat (first | (with_reducible first | exact HB.out | apply lA | apply lN | apply lD | refine lS ?_ GE211.out | refine lS ?_ GE223.out) | exact HB.out))) : w.heap.size ≤ gb249))
                    have n9_ := aaM ((by rw [hg]; exact (lZ (by repeat (first | (with_reducible first | exact HB.out | apply lA | apply lN | apply lD | refine lS ?_ GE211.out | refine lS ?_ GE223.out) | exact HB.out))) : w.heap.size ≤ gb249))
                    have n10_ := aaM ((by rw [hg]; exact Nat.ne_of_lt (bL (g := gb211) (by (with_reducible repeat (first | refine bN ?_ _ | refine bD ?_ | refine bA ?_ _)); exact BK211.out)) : gb211 ≠ gb249))
                    have n11_ := aaM ((by rw [hg]; exact Nat.ne_of_gt (bL (g := gb211) (by (with_reducible repeat (first | refine bN ?_ _ | refine bD ?_ | refine bA ?_ _)); exact BK211.out)) : gb249 ≠ gb211))
                    have n12_ := aaM ((by rw [hg]; exact Nat.ne_of_lt (bL (g := gb223) (by (with_reducible repeat (first | refine bN ?_ _ | refine bD ?_ | refine bA ?_ _)); exact BK223.out)) : gb223 ≠ gb249))
                    have n13_ := aaM ((by rw [hg]; exact Nat.ne_of_gt (bL (g := gb223) (by (with_reducible repeat (first | refine bN ?_ _ | refine bD ?_ | refine bA ?_ _)); exact BK223.out)) : gb249 ≠ gb223))
                    clear HO_11 HO_12 HO_224003 HO_224004 BK211 BK223 HB
                    have HO_11 := n0_
                    have HO_12 := n1_
                    have HO_224003 := n2_
                    have HO_224004 := n3_
                    have BK211 := n4_
                    have BK223 := n5_
                    have HB := n6_
                    have BK249 := n7_
                    have GW249 := n8_
                    have GE249 := n9_
                    have NB211_249 := n10_
                    have NB249_211 := n11_
                    have NB223_249 := n12_
                    have NB249_223 := n13_
                    clear n0_ n1_ n2_ n3_ n4_ n5_ n6_ n7_ n8_ n9_ n10_ n11_ n12_ n13_ hb hbox hg
                    refine hK.out _ _ ⟨(bC BK223.out 0).trans rfl, (bC BK223.out 1).trans rfl, (bC BK223.out 2).trans rfl, (bC BK223.out 3).trans rfl, (bC BK223.out 4).trans rfl, (bC BK223.out 5).trans rfl, HS6_⟩ (fun hHeld => ?_)
                    clear hK K
                    refine norm_ (a' := ?_) ?_ ?_
                    rotate_left
                    ·show Act.put _ (some 16) _ = _
                     simp only [Act.put, ssB, ssZ, ssS, i64_w, i32_w]
                     rfl
                    exact norm_ (by first | (simp only [putAll, Act.put, ssB, ssZ, ssS]; done) | (simp only [putAll, Act.put, ssB, ssZ, ssS]; rfl)) (hJ11 (gb249) _ ⟨hHeld, (by (with_reducible repeat (first | apply rrA | apply rrN | apply rrD)); exact Kd.R_mono HO_11.out (fun _ hk => hk.2)), (by (with_reducible repeat (first | apply rrA | apply rrN | apply rrD)); exact HO_12.out), (by (with_reducible repeat (first | apply rrA | apply rrN | apply rrD)); exact HO_224003.out), (by (with_reducible repeat (first | apply rrA | apply rrN | apply rrD)); exact HO_224004.out), (by (with_reducible repeat (first | refine bN ?_ _ | refine bD ?_ | refine bA ?_ _)); exact BK211.out), (by (with_reducible repeat (first | refine bN ?_ _ | refine bD ?_ | refine bA ?_ _)); exact BK223.out), (by (with_reducible repeat (first | refine bN ?_ _ | refine bD ?_ | refine bA ?_ _)); exact BK249.out), GW249.out, GE249.out, NB211_249.out, NB249_211.out, NB223_249.out, NB249_223.out, (by repeat (first | (with_reducible first | exact HB.out | apply lA | apply lN | apply lD | refine lS ?_ GE211.out | refine lS ?_ GE223.out | refine lS ?_ GE249.out) | exact HB.out))⟩)
                  ·skip
                   rintro gb249 w52 ⟨hS_, h0_, h1_, h2_, h3_, h4_, h5_, h6_, h7_, h8_, h9_, h10_, h11_, h12_, h13_⟩
                   have n0_ : Aside0 (Kd.R k52 52 w52 w.heap.size (fun k_ => k_ ≠ gb249) (.slice Ao37 x11_1.length co37) x11_1) := ⟨h0_⟩
                   have n1_ : Aside0 (Kd.R (Kd.int .i64) 3 w52 w.heap.size (fun k_ => some k_ ≠ (.slice Ao33 x224003_1.length co33 : Value).ownBlock) (.slice (some ad233) t227.length co36) t227) := ⟨h1_⟩
                   have n2_ : Aside0 (Kd.R (Kd.int .i64) 3 w52 w.heap.size (fun k_ => some k_ ≠ (.slice (some ad233) t227.length co36 : Value).ownBlock) (.slice Ao33 x224003_1.length co33) x224003_1) := ⟨h2_⟩
                   have n3_ : Aside0 (Kd.R Kd.bool 4 w52 w.heap.size (fun _ => True) (.slice Ao34 x224004_1.length co34) x224004_1) := ⟨h3_⟩
                   have n4_ : Aside0 (w52.heap[gb211]? = some (.cells #[.int .i64 x212000_1, .int .i64 x212001_1, .int .i64 x212002_1, .slice none 0 0, .slice none 0 0, .bool x212005_1] 42 (0, 0))) := ⟨h4_⟩
                   have n5_ : Aside0 (w52.heap[gb223]? = some (.cells #[.int .i64 x224000_1, .int .i64 x224001_1, .int .i64 x224002_1, .slice Ao33 x224003_1.length co33, .slice Ao34 x224004_1.length co34, .bool x224005_1] 42 (0, 0))) := ⟨h5_⟩
                   have n6_ : Aside0 (w52.heap[gb249]? = some (.cells #[.int .i64 0, .int .i64 0, .int .i64 0] 52 (0, 0))) := ⟨h6_⟩
                   have n7_ : Aside0 (w.heap.size ≤ gb249) := ⟨h7_⟩
                   have n8_ : Aside0 (w.heap.size ≤ gb249) := ⟨h8_⟩
                   have n9_ : Aside0 (gb211 ≠ gb249) := ⟨h9_⟩
                   have n10_ : Aside0 (gb249 ≠ gb211) := ⟨h10_⟩
                   have n11_ : Aside0 (gb223 ≠ gb249) := ⟨h11_⟩
                   have n12_ : Aside0 (gb249 ≠ gb223) := ⟨h12_⟩
                   have n13_ : Aside0 (Below w.heap.size w w52) := ⟨h13_⟩
                   clear HO_11 HO_12 HO_224003 HO_224004 BK211 BK223 HB h0_ h1_ h2_ h3_ h4_ h5_ h6_ h7_ h8_ h9_ h10_ h11_ h12_ h13_
                   have HO_11 := n0_
                   have HO_12 := n1_
                   have HO_224003 := n2_
                   have HO_224004 := n3_
                   have BK211 := n4_
                   have BK223 := n5_
                   have BK249 := n6_
                   have GW249 := n7_
                   have GE249 := n8_
                   have NB211_249 := n9_
                   have NB249_211 := n10_
                   have NB223_249 := n11_
                   have NB249_223 := n12_
                   have HB := n13_
                   clear n0_ n1_ n2_ n3_ n4_ n5_ n6_ n7_ n8_ n9_ n10_ n11_ n12_ n13_
                   have hHeld : w52.cell? ⟨gb223, 0, none⟩ = some (.int .i64 x224000_1) ∧ w52.cell? ⟨gb223, 1, none⟩ = some (.int .i64 x224001_1) ∧ w52.cell? ⟨gb223, 2, none⟩ = some (.int .i64 x224002_1) ∧ w52.cell? ⟨gb223, 3, none⟩ = some (.slice Ao33 x224003_1.length co33) ∧ w52.cell? ⟨gb223, 4, none⟩ = some (.slice Ao34 x224004_1.length co34) ∧ w52.cell? ⟨gb223, 5, none⟩ = some (.bool x224005_1) ∧ w52.cell? (ad233.add (x13_39).toNat) = some (.int .i64 (rd t227 x13_39)) := hS_
                   refine norm_ (a' := ?_) ?_ ?_
                   rotate_left
                   ·simp only [putAll, Act.put, ssB, ssZ, ssS]
                    rfl
                   refine two_ (i := 5) (j := 10) (Ni := some 70) (Nj := some 15) #[true, true, true, true, true, true, false, false, false, false, false, true, false, false, false] #[true, true, true, true, true, false, false, false, false, false, true, true, false, false, false] rfl rfl rfl rfl (two_of HT_.out (by kernel_rfl)) (by decide) (by decide) (fun K hK => ?_) (fun K hK => ?_)
                   ·skip
                    refine goes_ Try.func37 (by kernel_rfl) rfl #[.agg #[.int .i64 x224000_1, .int .i64 x224001_1, .int .i64 x224002_1, .slice Ao33 x224003_1.length co33, .slice Ao34 x224004_1.length co34, .bool x224005_1], .int .i64 (rd t227 x13_39)] (by rfl) rfl rfl (by (try simp only [List.map_toArray, List.map_cons, List.map_nil]); first | done | rfl | (simp only [List.length_drop, List.length_take]; rfl)) ?_
                    with_reducible refine (hornbeamref21_Step.calls kj39 x224000_1 x224001_1 x224002_1 _ _ x224003_1 _ _ x224004_1 x224005_1 (rd t227 x13_39) t234 t235 t236 t237 t240 t243 t244 t245 t246 t247 _ ?side1 ?side2 ?side3 ?side4 A48.out).mono ?_
                    (case side1 => repeat (first | exact (Kd.R_reads' HO_224003.out).2.2 | (with_reducible refine ccA ?_ _) | (with_reducible refine ccN ?_ _) | (with_reducible refine ccD ?_)))
                    (case side2 => exact (Kd.R_reads' HO_224003.out).2.1)
                    (case side3 => repeat (first | exact (Kd.R_reads' HO_224004.out).2.2 | (with_reducible refine ccA ?_ _) | (with_reducible refine ccN ?_ _) | (with_reducible refine ccD ?_)))
                    (case side4 => exact (Kd.R_reads' HO_224004.out).2.1)
                    rintro e w53 ⟨v238, v241, rfl, ho0, ho1, hb⟩
                    have HS6_ := (hb.cell (World.block_lt_of_cell? _ _ (hHeld.2.2.2.2.2.2))).trans (hHeld.2.2.2.2.2.2)
                    refine ⟨_, rfl, ?_⟩
                    have n0_ := aaM (rrB (by (with_reducible repeat (first | apply rrA | apply rrN | apply rrD)); exact HO_11.out) hb)
                    have n1_ := aaM (Kd.R_elder' (by (with_reducible repeat (first | apply rrA | apply rrN | apply rrD)); exact HO_12.out) (Kd.R_base ho0) hb)
                    have n2_ := aaM (Kd.R_elder' (by (with_reducible repeat (first | apply rrA | apply rrN | apply rrD)); exact HO_224003.out) (Kd.R_base ho0) hb)
                    have n3_ := aaM (Kd.R_elder' (by (with_reducible repeat (first | apply rrA | apply rrN | apply rrD)); exact HO_224004.out) (Kd.R_base ho1) hb)
                    have n4_ := aaM (Kd.R_lower (Kd.R_new' (Kd.R_new' ho0 (Kd.R_lt (by (with_reducible repeat (first | apply rrA | apply rrN | apply rrD)); exact HO_12.out))) (Kd.R_lt (by (with_reducible repeat (first | apply rrA | apply rrN | apply rrD)); exact HO_224003.out))) (lZ (by repeat (first | (with_reducible first | exact HB.out | apply lA | apply lN | apply lD | refine lS ?_ GE211.out | refine lS ?_ GE223.out | refine lS ?_ GE249.out) | exact HB.out))))
                    have n5_ := aaM (Kd.R_lower (Kd.R_new' ho1 (Kd.R_lt (by (with_reducible repeat (first | apply rrA | apply rrN | apply rrD)); exact HO_224004.out))) (lZ (by repeat (first | (with_reducible first | exact HB.out | apply lA | apply lN | apply lD | refine lS ?_ GE211.out | refine lS ?_ GE223.out | refine lS ?_ GE249.out) | exact HB.out))))
                    have n6_ := aaM (bB (g := gb211) (o := .cells #[.int .i64 x212000_1, .int .i64 x212001_1, .int .i64 x212002_1, .slice none 0 0, .slice none 0 0, .bool x212005_1] 42 (0, 0)) (by (with_reducible repeat (first | refine bN ?_ _ | refine bD ?_ | refine bA ?_ _)); exact BK211.out) hb)
                    have n7_ := aaM (bB (g := gb223) (o := .cells #[.int .i64 x224000_1, .int .i64 x224001_1, .int .i64 x224002_1, .slice Ao33 x224003_1.length co33, .slice Ao34 x224004_1.length co34, .bool x224005_1] 42 (0, 0)) (by (with_reducible repeat (first | refine bN ?_ _ | refine bD ?_ | refine bA ?_ _)); exact BK223.out) hb)
                    have n8_ := aaM (bB (g := gb249) (o := .cells #[.int .i64 0, .int .i64 0, .int .i64 0] 52 (0, 0)) (by (with_reducible repeat (first | refine bN ?_ _ | refine bD ?_ | refine bA ?_ _)); exact BK249.out) hb)
                    have n9_ := aaM (lP (by repeat (first | (with_reducible first | exact HB.out | apply lA | apply lN | apply lD | refine lS ?_ GE211.out | refine lS ?_ GE223.out | refine lS ?_ GE249.out) | exact HB.out)) hb)
                    clear HO_11 HO_12 HO_224003 HO_224004 BK211 BK223 BK249 HB
                    have HO_11 := n0_
                    have HO_12 := n1_
                    have HO_224003 := n2_
                    have HO_224004 := n3_
                    have HO239 := n4_
                    have HO242 := n5_
                    have BK211 := n6_
                    have BK223 := n7_
                    have BK249 := n8_
                    have HB := n9_
                    clear n0_ n1_ n2_ n3_ n4_ n5_ n6_ n7_ n8_ n9_
                    (try clear hb)
                    (try clear hb2)
                    (try clear hk)
                    (try clear hi)
                    (try clear ho0)
                    (try clear ho1)
                    refine hK.out _ _ ⟨(bC BK223.out 0).trans rfl, (bC BK223.out 1).trans rfl, (bC BK223.out 2).trans rfl, (bC BK223.out 3).trans rfl, (bC BK223.out 4).trans rfl, (bC BK223.out 5).trans rfl, HS6_⟩ (fun hHeld => ?_)
                    clear hK K
                    refine norm_ (a' := ?_) ?_ ?_
                    rotate_left
                    ·show Act.put _ (some 70) _ = _
                     simp only [Act.put, ssB, ssZ, ssS, i64_w, i32_w]
                     rfl
                    refine pure_ (i := 6) (N := some 64) (v := ?_) (a' := ?_) #[true, true, true, true, true, true, true, false, false, false, false, true, false, false, false] rfl rfl (any_of HT_.out (by kernel_rfl)) (fun _ _ _ h => h) (Or.inl ⟨by rfl, ?_⟩) ?_ ?_
                    rotate_left
                    ·intro w'
                     go_simp
                     with_reducible rfl
                    rotate_left
                    ·simp only [Act.put, ssB, ssZ, ssS, i64_w, i32_w]
                     rfl
                    refine pure_ (i := 7) (N := some 71) (v := ?_) (a' := ?_) #[true, true, true, true, true, true, true, true, false, false, false, true, false, false, false] rfl rfl (any_of HT_.out (by kernel_rfl)) (fun _ _ _ h => h) (Or.inl ⟨by rfl, ?_⟩) ?_ ?_
                    rotate_left
                    ·intro w'
                     go_simp
                     with_reducible rfl
                    rotate_left
                    ·simp only [Act.put, ssB, ssZ, ssS, i64_w, i32_w]
                     rfl
                    refine pure_ (i := 8) (N := some 72) (v := ?_) (a' := ?_) #[true, true, true, true, true, true, true, true, true, false, false, true, false, false, false] rfl rfl (any_of HT_.out (by kernel_rfl)) (fun _ _ _ h => h) (Or.inl ⟨by rfl, ?_⟩) ?_ ?_
                    rotate_left
                    ·intro w'
                     go_simp
                     with_reducible rfl
                    rotate_left
                    ·simp only [Act.put, ssB, ssZ, ssS, i64_w, i32_w]
                     rfl
                    refine pure_ (i := 9) (N := some 73) (v := ?_) (a' := ?_) #[true, true, true, true, true, true, true, true, true, true, false, true, false, false, false] rfl rfl (any_of HT_.out (by kernel_rfl)) (fun _ _ _ h => h) (Or.inl ⟨by rfl, ?_⟩) ?_ ?_
                    rotate_left
                    ·intro w'
                     go_simp
                     with_reducible rfl
                    rotate_left
                    ·simp only [Act.put, ssB, ssZ, ssS, i64_w, i32_w]
                     rfl
                    exact norm_ (by first | (simp only [putAll, Act.put, ssB, ssZ, ssS]; done) | (simp only [putAll, Act.put, ssB, ssZ, ssS]; rfl)) (hJ5_11 (v238, v241, gb249) _ ⟨hHeld, (by (with_reducible repeat (first | apply rrA | apply rrN | apply rrD)); exact Kd.R_mono HO239.out (fun _ hk => ⟨hk.1.2, hk.2⟩)), (by (with_reducible repeat (first | apply rrA | apply rrN | apply rrD)); exact Kd.R_mono HO242.out (fun _ hk => hk.2)), (by (with_reducible repeat (first | apply rrA | apply rrN | apply rrD)); exact HO_11.out), (by (with_reducible repeat (first | apply rrA | apply rrN | apply rrD)); exact Kd.R_mono HO_12.out (fun _ hk => ⟨hk.2, hk.1⟩)), (by (with_reducible repeat (first | apply rrA | apply rrN | apply rrD)); exact Kd.R_mono HO_224003.out (fun _ hk => ⟨hk.2, hk.1⟩)), (by (with_reducible repeat (first | apply rrA | apply rrN | apply rrD)); exact Kd.R_mono HO_224004.out (fun _ hk => hk.2)), (by (with_reducible repeat (first | refine bN ?_ _ | refine bD ?_ | refine bA ?_ _)); exact BK211.out), (by (with_reducible repeat (first | refine bN ?_ _ | refine bD ?_ | refine bA ?_ _)); exact BK223.out), (by (with_reducible repeat (first | refine bN ?_ _ | refine bD ?_ | refine bA ?_ _)); exact BK249.out), GW249.out, GE249.out, NB211_249.out, NB249_211.out, NB223_249.out, NB249_223.out, (by repeat (first | (with_reducible first | exact HB.out | apply lA | apply lN | apply lD | refine lS ?_ GE211.out | refine lS ?_ GE223.out | refine lS ?_ GE249.out) | exact HB.out))⟩)
                   ·skip
                    refine box_step ?hg (N := 15) ?hd (cs := #[.int .i64 0, .int .i64 0, .int .i64 0, .slice none 0 0, .slice none 0 0, .bool false]) (t := 42) ?hr ?_; (case hd => rfl); (case hg => rfl); (case hr => first | (go_simp; done) | (go_simp; rfl))
                    intro gb248 hg w53 hbox hb
                    have HS6_ := (hb.cell (World.block_lt_of_cell? _ _ (hHeld.2.2.2.2.2.2))).trans (hHeld.2.2.2.2.2.2)
                    have n0_ := aaM (rrB (by (with_reducible repeat (first | apply rrA | apply rrN | apply rrD)); exact HO_11.out) hb)
                    have n1_ := aaM (rrB (by (with_reducible repeat (first | apply rrA | apply rrN | apply rrD)); exact HO_12.out) hb)
                    have n2_ := aaM (rrB (by (with_reducible repeat (first | apply rrA | apply rrN | apply rrD)); exact HO_224003.out) hb)
                    have n3_ := aaM (rrB (by (with_reducible repeat (first | apply rrA | apply rrN | apply rrD)); exact HO_224004.out) hb)
                    have n4_ := aaM (bB (g := gb211) (o := .cells #[.int .i64 x212000_1, .int .i64 x212001_1, .int .i64 x212002_1, .slice none 0 0, .slice none 0 0, .bool x212005_1] 42 (0, 0)) (by (with_reducible repeat (first | refine bN ?_ _ | refine bD ?_ | refine bA ?_ _)); exact BK211.out) hb)
                    have n5_ := aaM (bB (g := gb223) (o := .cells #[.int .i64 x224000_1, .int .i64 x224001_1, .int .i64 x224002_1, .slice Ao33 x224003_1.length co33, .slice Ao34 x224004_1.length co34, .bool x224005_1] 42 (0, 0)) (by (with_reducible repeat (first | refine bN ?_ _ | refine bD ?_ | refine bA ?_ _)); exact BK223.out) hb)
                    have n6_ := aaM (bB (g := gb249) (o := .cells #[.int .i64 0, .int .i64 0, .int .i64 0] 52 (0, 0)) (by (with_reducible repeat (first | refine bN ?_ _ | refine bD ?_ | refine bA ?_ _)); exact BK249.out) hb)
                    have n7_ := aaM (lP (by repeat (first | (with_reducible first | exact HB.out | apply lA | apply lN | apply lD | refine lS ?_ GE211.out | refine lS ?_ GE223.out | refine lS ?_ GE249.out) | exact HB.out)) hb)
                    have n8_ := aaM (hbox)
                    have n9_ := aaM ((by rw [hg]; exact (lZ (by repeat (first | (with_reducible first | exact HB.out | apply lA | apply lN | apply lD | refine lS ?_ GE211.out | refine lS ?_ GE223.out | refine lS ?_ GE249.out) | exact HB.out))) : w.heap.size ≤ gb248))
                    have n10_ := aaM ((by rw [hg]; exact (lZ (by repeat (first | (with_reducible first | exact HB.out | apply lA | apply lN | apply lD | refine lS ?_ GE211.out | refine lS ?_ GE223.out | refine lS ?_ GE249.out) | exact HB.out))) : w.heap.size ≤ gb248))
                    have n11_ := aaM ((by rw [hg]; exact Nat.ne_of_lt (bL (g := gb211) (by (with_reducible repeat (first | refine bN ?_ _ | refine bD ?_ | refine bA ?_ _)); exact BK211.out)) : gb211 ≠ gb248))
                    have n12_ := aaM ((by rw [hg]; exact Nat.ne_of_gt (bL (g := gb211) (by (with_reducible repeat (first | refine bN ?_ _ | refine bD ?_ | refine bA ?_ _)); exact BK211.out)) : gb248 ≠ gb211))
                    have n13_ := aaM ((by rw [hg]; exact Nat.ne_of_lt (bL (g := gb223) (by (with_reducible repeat (first | refine bN ?_ _ | refine bD ?_ | refine bA ?_ _)); exact BK223.out)) : gb223 ≠ gb248))
                    have n14_ := aaM ((by rw [hg]; exact Nat.ne_of_gt (bL (g := gb223) (by (with_reducible repeat (first | refine bN ?_ _ | refine bD ?_ | refine bA ?_ _)); exact BK223.out)) : gb248 ≠ gb223))
                    have n15_ := aaM ((by rw [hg]; exact Nat.ne_of_lt (bL (g := gb249) (by (with_reducible repeat (first | refine bN ?_ _ | refine bD ?_ | refine bA ?_ _)); exact BK249.out)) : gb249 ≠ gb248))
                    have n16_ := aaM ((by rw [hg]; exact Nat.ne_of_gt (bL (g := gb249) (by (with_reducible repeat (first | refine bN ?_ _ | refine bD ?_ | refine bA ?_ _)); exact BK249.out)) : gb248 ≠ gb249))
                    clear HO_11 HO_12 HO_224003 HO_224004 BK211 BK223 BK249 HB
                    have HO_11 := n0_
                    have HO_12 := n1_
                    have HO_224003 := n2_
                    have HO_224004 := n3_
                    have BK211 := n4_
                    have BK223 := n5_
                    have BK249 := n6_
                    have HB := n7_
                    have BK248 := n8_
                    have GW248 := n9_
                    have GE248 := n10_
                    have NB211_248 := n11_
                    have NB248_211 := n12_
                    have NB223_248 := n13_
                    have NB248_223 := n14_
                    have NB249_248 := n15_
                    have NB248_249 := n16_
                    clear n0_ n1_ n2_ n3_ n4_ n5_ n6_ n7_ n8_ n9_ n10_ n11_ n12_ n13_ n14_ n15_ n16_ hb hbox hg
                    refine hK.out _ _ ⟨(bC BK223.out 0).trans rfl, (bC BK223.out 1).trans rfl, (bC BK223.out 2).trans rfl, (bC BK223.out 3).trans rfl, (bC BK223.out 4).trans rfl, (bC BK223.out 5).trans rfl, HS6_⟩ (fun hHeld => ?_)
                    clear hK K
                    refine norm_ (a' := ?_) ?_ ?_
                    rotate_left
                    ·show Act.put _ (some 15) _ = _
                     simp only [Act.put, ssB, ssZ, ssS, i64_w, i32_w]
                     rfl
                    exact norm_ (by first | (simp only [putAll, Act.put, ssB, ssZ, ssS]; done) | (simp only [putAll, Act.put, ssB, ssZ, ssS]; rfl)) (hJ10_11 (gb248, gb249) _ ⟨hHeld, (by (with_reducible repeat (first | apply rrA | apply rrN | apply rrD)); exact HO_11.out), (by (with_reducible repeat (first | apply rrA | apply rrN | apply rrD)); exact HO_12.out), (by (with_reducible repeat (first | apply rrA | apply rrN | apply rrD)); exact HO_224003.out), (by (with_reducible repeat (first | apply rrA | apply rrN | apply rrD)); exact HO_224004.out), (by (with_reducible repeat (first | refine bN ?_ _ | refine bD ?_ | refine bA ?_ _)); exact BK211.out), (by (with_reducible repeat (first | refine bN ?_ _ | refine bD ?_ | refine bA ?_ _)); exact BK223.out), (by (with_reducible repeat (first | refine bN ?_ _ | refine bD ?_ | refine bA ?_ _)); exact BK248.out), (by (with_reducible repeat (first | refine bN ?_ _ | refine bD ?_ | refine bA ?_ _)); exact BK249.out), GW248.out, GE248.out, NB211_248.out, NB248_211.out, NB223_248.out, NB248_223.out, NB249_248.out, NB248_249.out, GW249.out, GE249.out, NB211_249.out, NB249_211.out, NB223_249.out, NB249_223.out, (by repeat (first | (with_reducible first | exact HB.out | apply lA | apply lN | apply lD | refine lS ?_ GE211.out | refine lS ?_ GE223.out | refine lS ?_ GE249.out | refine lS ?_ GE248.out) | exact HB.out))⟩)
                 ·skip
                  rintro gb248 w52 ⟨hS_, h0_, h1_, h2_, h3_, h4_, h5_, h6_, h7_, h8_, h9_, h10_, h11_, h12_, h13_⟩
                  have n0_ : Aside0 (Kd.R k52 52 w52 w.heap.size (fun _ => True) (.slice Ao37 x11_1.length co37) x11_1) := ⟨h0_⟩
                  have n1_ : Aside0 (Kd.R (Kd.int .i64) 3 w52 w.heap.size (fun k_ => some k_ ≠ (.slice Ao33 x224003_1.length co33 : Value).ownBlock) (.slice (some ad233) t227.length co36) t227) := ⟨h1_⟩
                  have n2_ : Aside0 (Kd.R (Kd.int .i64) 3 w52 w.heap.size (fun k_ => some k_ ≠ (.slice (some ad233) t227.length co36 : Value).ownBlock) (.slice Ao33 x224003_1.length co33) x224003_1) := ⟨h2_⟩
                  have n3_ : Aside0 (Kd.R Kd.bool 4 w52 w.heap.size (fun _ => True) (.slice Ao34 x224004_1.length co34) x224004_1) := ⟨h3_⟩
                  have n4_ : Aside0 (w52.heap[gb211]? = some (.cells #[.int .i64 x212000_1, .int .i64 x212001_1, .int .i64 x212002_1, .slice none 0 0, .slice none 0 0, .bool x212005_1] 42 (0, 0))) := ⟨h4_⟩
                  have n5_ : Aside0 (w52.heap[gb223]? = some (.cells #[.int .i64 x224000_1, .int .i64 x224001_1, .int .i64 x224002_1, .slice Ao33 x224003_1.length co33, .slice Ao34 x224004_1.length co34, .bool x224005_1] 42 (0, 0))) := ⟨h5_⟩
                  have n6_ : Aside0 (w52.heap[gb248]? = some (.cells #[.int .i64 0, .int .i64 0, .int .i64 0, .slice none 0 0, .slice none 0 0, .bool false] 42 (0, 0))) := ⟨h6_⟩
                  have n7_ : Aside0 (w.heap.size ≤ gb248) := ⟨h7_⟩
                  have n8_ : Aside0 (w.heap.size ≤ gb248) := ⟨h8_⟩
                  have n9_ : Aside0 (gb211 ≠ gb248) := ⟨h9_⟩
                  have n10_ : Aside0 (gb248 ≠ gb211) := ⟨h10_⟩
                  have n11_ : Aside0 (gb223 ≠ gb248) := ⟨h11_⟩
                  have n12_ : Aside0 (gb248 ≠ gb223) := ⟨h12_⟩
                  have n13_ : Aside0 (Below w.heap.size w w52) := ⟨h13_⟩
                  clear HO_11 HO_12 HO_224003 HO_224004 BK211 BK223 HB h0_ h1_ h2_ h3_ h4_ h5_ h6_ h7_ h8_ h9_ h10_ h11_ h12_ h13_
                  have HO_11 := n0_
                  have HO_12 := n1_
                  have HO_224003 := n2_
                  have HO_224004 := n3_
                  have BK211 := n4_
                  have BK223 := n5_
                  have BK248 := n6_
                  have GW248 := n7_
                  have GE248 := n8_
                  have NB211_248 := n9_
                  have NB248_211 := n10_
                  have NB223_248 := n11_
                  have NB248_223 := n12_
                  have HB := n13_
                  clear n0_ n1_ n2_ n3_ n4_ n5_ n6_ n7_ n8_ n9_ n10_ n11_ n12_ n13_
                  have hHeld : w52.cell? ⟨gb223, 0, none⟩ = some (.int .i64 x224000_1) ∧ w52.cell? ⟨gb223, 1, none⟩ = some (.int .i64 x224001_1) ∧ w52.cell? ⟨gb223, 2, none⟩ = some (.int .i64 x224002_1) ∧ w52.cell? ⟨gb223, 3, none⟩ = some (.slice Ao33 x224003_1.length co33) ∧ w52.cell? ⟨gb223, 4, none⟩ = some (.slice Ao34 x224004_1.length co34) ∧ w52.cell? ⟨gb223, 5, none⟩ = some (.bool x224005_1) ∧ w52.cell? (ad233.add (x13_39).toNat) = some (.int .i64 (rd t227 x13_39)) := hS_
                  refine norm_ (a' := ?_) ?_ ?_
                  rotate_left
                  ·simp only [putAll, Act.put, ssB, ssZ, ssS]
                   rfl
                  refine two_ (i := 5) (j := 11) (Ni := some 70) (Nj := some 16) #[true, true, true, true, true, true, false, false, false, false, true, false, false, false, false] #[true, true, true, true, true, false, false, false, false, false, true, true, false, false, false] rfl rfl rfl rfl (two_of HT_.out (by kernel_rfl)) (by decide) (by decide) (fun K hK => ?_) (fun K hK => ?_)
                  ·skip
                   refine goes_ Try.func37 (by kernel_rfl) rfl #[.agg #[.int .i64 x224000_1, .int .i64 x224001_1, .int .i64 x224002_1, .slice Ao33 x224003_1.length co33, .slice Ao34 x224004_1.length co34, .bool x224005_1], .int .i64 (rd t227 x13_39)] (by rfl) rfl rfl (by (try simp only [List.map_toArray, List.map_cons, List.map_nil]); first | done | rfl | (simp only [List.length_drop, List.length_take]; rfl)) ?_
                   with_reducible refine (hornbeamref21_Step.calls kj39 x224000_1 x224001_1 x224002_1 _ _ x224003_1 _ _ x224004_1 x224005_1 (rd t227 x13_39) t234 t235 t236 t237 t240 t243 t244 t245 t246 t247 _ ?side1 ?side2 ?side3 ?side4 A48.out).mono ?_
                   (case side1 => repeat (first | exact (Kd.R_reads' HO_224003.out).2.2 | (with_reducible refine ccA ?_ _) | (with_reducible refine ccN ?_ _) | (with_reducible refine ccD ?_)))
                   (case side2 => exact (Kd.R_reads' HO_224003.out).2.1)
                   (case side3 => repeat (first | exact (Kd.R_reads' HO_224004.out).2.2 | (with_reducible refine ccA ?_ _) | (with_reducible refine ccN ?_ _) | (with_reducible refine ccD ?_)))
                   (case side4 => exact (Kd.R_reads' HO_224004.out).2.1)
                   rintro e w53 ⟨v238, v241, rfl, ho0, ho1, hb⟩
                   have HS6_ := (hb.cell (World.block_lt_of_cell? _ _ (hHeld.2.2.2.2.2.2))).trans (hHeld.2.2.2.2.2.2)
                   refine ⟨_, rfl, ?_⟩
                   have n0_ := aaM (rrB (by (with_reducible repeat (first | apply rrA | apply rrN | apply rrD)); exact HO_11.out) hb)
                   have n1_ := aaM (Kd.R_elder' (by (with_reducible repeat (first | apply rrA | apply rrN | apply rrD)); exact HO_12.out) (Kd.R_base ho0) hb)
                   have n2_ := aaM (Kd.R_elder' (by (with_reducible repeat (first | apply rrA | apply rrN | apply rrD)); exact HO_224003.out) (Kd.R_base ho0) hb)
                   have n3_ := aaM (Kd.R_elder' (by (with_reducible repeat (first | apply rrA | apply rrN | apply rrD)); exact HO_224004.out) (Kd.R_base ho1) hb)
                   have n4_ := aaM (Kd.R_lower (Kd.R_new' (Kd.R_new' ho0 (Kd.R_lt (by (with_reducible repeat (first | apply rrA | apply rrN | apply rrD)); exact HO_12.out))) (Kd.R_lt (by (with_reducible repeat (first | apply rrA | apply rrN | apply rrD)); exact HO_224003.out))) (lZ (by repeat (first | (with_reducible first | exact HB.out | apply lA | apply lN | apply lD | refine lS ?_ GE211.out | refine lS ?_ GE223.out | refine lS ?_ GE248.out) | exact HB.out))))
                   have n5_ := aaM (Kd.R_lower (Kd.R_new' ho1 (Kd.R_lt (by (with_reducible repeat (first | apply rrA | apply rrN | apply rrD)); exact HO_224004.out))) (lZ (by repeat (first | (with_reducible first | exact HB.out | apply lA | apply lN | apply lD | refine lS ?_ GE211.out | refine lS ?_ GE223.out | refine lS ?_ GE248.out) | exact HB.out))))
                   have n6_ := aaM (bB (g := gb211) (o := .cells #[.int .i64 x212000_1, .int .i64 x212001_1, .int .i64 x212002_1, .slice none 0 0, .slice none 0 0, .bool x212005_1] 42 (0, 0)) (by (with_reducible repeat (first | refine bN ?_ _ | refine bD ?_ | refine bA ?_ _)); exact BK211.out) hb)
                   have n7_ := aaM (bB (g := gb223) (o := .cells #[.int .i64 x224000_1, .int .i64 x224001_1, .int .i64 x224002_1, .slice Ao33 x224003_1.length co33, .slice Ao34 x224004_1.length co34, .bool x224005_1] 42 (0, 0)) (by (with_reducible repeat (first | refine bN ?_ _ | refine bD ?_ | refine bA ?_ _)); exact BK223.out) hb)
                   have n8_ := aaM (bB (g := gb248) (o := .cells #[.int .i64 0, .int .i64 0, .int .i64 0, .slice none 0 0, .slice none 0 0, .bool false] 42 (0, 0)) (by (with_reducible repeat (first | refine bN ?_ _ | refine bD ?_ | refine bA ?_ _)); exact BK248.out) hb)
                   have n9_ := aaM (lP (by repeat (first | (with_reducible first | exact HB.out | apply lA | apply lN | apply lD | refine lS ?_ GE211.out | refine lS ?_ GE223.out | refine lS ?_ GE248.out) | exact HB.out)) hb)
                   clear HO_11 HO_12 HO_224003 HO_224004 BK211 BK223 BK248 HB
                   have HO_11 := n0_
                   have HO_12 := n1_
                   have HO_224003 := n2_
                   have HO_224004 := n3_
                   have HO239 := n4_
                   have HO242 := n5_
                   have BK211 := n6_
                   have BK223 := n7_
                   have BK248 := n8_
                   have HB := n9_
                   clear n0_ n1_ n2_ n3_ n4_ n5_ n6_ n7_ n8_ n9_
                   (try clear hb)
                   (try clear hb2)
                   (try clear hk)
                   (try clear hi)
                   (try clear ho0)
                   (try clear ho1)
                   refine hK.out _ _ ⟨(bC BK223.out 0).trans rfl, (bC BK223.out 1).trans rfl, (bC BK223.out 2).trans rfl, (bC BK223.out 3).trans rfl, (bC BK223.out 4).trans rfl, (bC BK223.out 5).trans rfl, HS6_⟩ (fun hHeld => ?_)
                   clear hK K
                   refine norm_ (a' := ?_) ?_ ?_
                   rotate_left
                   ·show Act.put _ (some 70) _ = _
                    simp only [Act.put, ssB, ssZ, ssS, i64_w, i32_w]
                    rfl
                   refine pure_ (i := 6) (N := some 64) (v := ?_) (a' := ?_) #[true, true, true, true, true, true, true, false, false, false, true, false, false, false, false] rfl rfl (any_of HT_.out (by kernel_rfl)) (fun _ _ _ h => h) (Or.inl ⟨by rfl, ?_⟩) ?_ ?_
                   rotate_left
                   ·intro w'
                    go_simp
                    with_reducible rfl
                   rotate_left
                   ·simp only [Act.put, ssB, ssZ, ssS, i64_w, i32_w]
                    rfl
                   refine pure_ (i := 7) (N := some 71) (v := ?_) (a' := ?_) #[true, true, true, true, true, true, true, true, false, false, true, false, false, false, false] rfl rfl (any_of HT_.out (by kernel_rfl)) (fun _ _ _ h => h) (Or.inl ⟨by rfl, ?_⟩) ?_ ?_
                   rotate_left
                   ·intro w'
                    go_simp
                    with_reducible rfl
                   rotate_left
                   ·simp only [Act.put, ssB, ssZ, ssS, i64_w, i32_w]
                    rfl
                   refine pure_ (i := 8) (N := some 72) (v := ?_) (a' := ?_) #[true, true, true, true, true, true, true, true, true, false, true, false, false, false, false] rfl rfl (any_of HT_.out (by kernel_rfl)) (fun _ _ _ h => h) (Or.inl ⟨by rfl, ?_⟩) ?_ ?_
                   rotate_left
                   ·intro w'
                    go_simp
                    with_reducible rfl
                   rotate_left
                   ·simp only [Act.put, ssB, ssZ, ssS, i64_w, i32_w]
                    rfl
                   refine pure_ (i := 9) (N := some 73) (v := ?_) (a' := ?_) #[true, true, true, true, true, true, true, true, true, true, true, false, false, false, false] rfl rfl (any_of HT_.out (by kernel_rfl)) (fun _ _ _ h => h) (Or.inl ⟨by rfl, ?_⟩) ?_ ?_
                   rotate_left
                   ·intro w'
                    go_simp
                    with_reducible rfl
                   rotate_left
                   ·simp only [Act.put, ssB, ssZ, ssS, i64_w, i32_w]
                    rfl
                   exact norm_ (by first | (simp only [putAll, Act.put, ssB, ssZ, ssS]; done) | (simp only [putAll, Act.put, ssB, ssZ, ssS]; rfl)) (hJ5_10 (v238, v241, gb248) _ ⟨hHeld, (by (with_reducible repeat (first | apply rrA | apply rrN | apply rrD)); exact Kd.R_mono HO239.out (fun _ hk => ⟨hk.1.2, hk.2⟩)), (by (with_reducible repeat (first | apply rrA | apply rrN | apply rrD)); exact Kd.R_mono HO242.out (fun _ hk => hk.2)), (by (with_reducible repeat (first | apply rrA | apply rrN | apply rrD)); exact HO_11.out), (by (with_reducible repeat (first | apply rrA | apply rrN | apply rrD)); exact Kd.R_mono HO_12.out (fun _ hk => ⟨hk.2, hk.1⟩)), (by (with_reducible repeat (first | apply rrA | apply rrN | apply rrD)); exact Kd.R_mono HO_224003.out (fun _ hk => ⟨hk.2, hk.1⟩)), (by (with_reducible repeat (first | apply rrA | apply rrN | apply rrD)); exact Kd.R_mono HO_224004.out (fun _ hk => hk.2)), (by (with_reducible repeat (first | refine bN ?_ _ | refine bD ?_ | refine bA ?_ _)); exact BK211.out), (by (with_reducible repeat (first | refine bN ?_ _ | refine bD ?_ | refine bA ?_ _)); exact BK223.out), (by (with_reducible repeat (first | refine bN ?_ _ | refine bD ?_ | refine bA ?_ _)); exact BK248.out), GW248.out, GE248.out, NB211_248.out, NB248_211.out, NB223_248.out, NB248_223.out, (by repeat (first | (with_reducible first | exact HB.out | apply lA | apply lN | apply lD | refine lS ?_ GE211.out | refine lS ?_ GE223.out | refine lS ?_ GE248.out) | exact HB.out))⟩)
                  ·skip
                   refine box_step ?hg (N := 16) ?hd (cs := #[.int .i64 0, .int .i64 0, .int .i64 0]) (t := 52) ?hr ?_; (case hd => rfl); (case hg => rfl); (case hr => first | (go_simp; done) | (go_simp; rfl))
                   intro gb249 hg w53 hbox hb
                   have HS6_ := (hb.cell (World.block_lt_of_cell? _ _ (hHeld.2.2.2.2.2.2))).trans (hHeld.2.2.2.2.2.2)
                   have n0_ := aaM (rrB (Kd.R_elderB (by (with_reducible repeat (first | apply rrA | apply rrN | apply rrD)); exact HO_11.out) gb249 (Nat.le_of_eq hg.symm)) hb)
                   have n1_ := aaM (rrB (by (with_reducible repeat (first | apply rrA | apply rrN | apply rrD)); exact HO_12.out) hb)
                   have n2_ := aaM (rrB (by (with_reducible repeat (first | apply rrA | apply rrN | apply rrD)); exact HO_224003.out) hb)
                   have n3_ := aaM (rrB (by (with_reducible repeat (first | apply rrA | apply rrN | apply rrD)); exact HO_224004.out) hb)
                   have n4_ := aaM (bB (g := gb211) (o := .cells #[.int .i64 x212000_1, .int .i64 x212001_1, .int .i64 x212002_1, .slice none 0 0, .slice none 0 0, .bool x212005_1] 42 (0, 0)) (by (with_reducible repeat (first | refine bN ?_ _ | refine bD ?_ | refine bA ?_ _)); exact BK211.out) hb)
                   have n5_ := aaM (bB (g := gb223) (o := .cells #[.int .i64 x224000_1, .int .i64 x224001_1, .int .i64 x224002_1, .slice Ao33 x224003_1.length co33, .slice Ao34 x224004_1.length co34, .bool x224005_1] 42 (0, 0)) (by (with_reducible repeat (first | refine bN ?_ _ | refine bD ?_ | refine bA ?_ _)); exact BK223.out) hb)
                   have n6_ := aaM (bB (g := gb248) (o := .cells #[.int .i64 0, .int .i64 0, .int .i64 0, .slice none 0 0, .slice none 0 0, .bool false] 42 (0, 0)) (by (with_reducible repeat (first | refine bN ?_ _ | refine bD ?_ | refine bA ?_ _)); exact BK248.out) hb)
                   have n7_ := aaM (lP (by repeat (first | (with_reducible first | exact HB.out | apply lA | apply lN | apply lD | refine lS ?_ GE211.out | refine lS ?_ GE223.out | refine lS ?_ GE248.out) | exact HB.out)) hb)
                   have n8_ := aaM (hbox)
                   have n9_ := aaM ((by rw [hg]; exact (lZ (by repeat (first | (with_reducible first | exact HB.out | apply lA | apply lN | apply lD | refine lS ?_ GE211.out | refine lS ?_ GE223.out | refine lS ?_ GE248.out) | exact HB.out))) : w.heap.size ≤ gb249))
                   have n10_ := aaM ((by rw [hg]; exact (lZ (by repeat (first | (with_reducible first | exact HB.out | apply lA | apply lN | apply lD | refine lS ?_ GE211.out | refine lS ?_ GE223.out | refine lS ?_ GE248.out) | exact HB.out))) : w.heap.size ≤ gb249))
                   have n11_ := aaM ((by rw [hg]; exact Nat.ne_of_lt (bL (g := gb211) (by (with_reducible repeat (first | refine bN ?_ _ | refine bD ?_ | refine bA ?_ _)); exact BK211.out)) : gb211 ≠ gb249))
                   have n12_ := aaM ((by rw [hg]; exact Nat.ne_of_gt (bL (g := gb211) (by (with_reducible repeat (first | refine bN ?_ _ | refine bD ?_ | refine bA ?_ _)); exact BK211.out)) : gb249 ≠ gb211))
                   have n13_ := aaM ((by rw [hg]; exact Nat.ne_of_lt (bL (g := gb223) (by (with_reducible repeat (first | refine bN ?_ _ | refine bD ?_ | refine bA ?_ _)); exact BK223.out)) : gb223 ≠ gb249))
                   have n14_ := aaM ((by rw [hg]; exact Nat.ne_of_gt (bL (g := gb223) (by (with_reducible repeat (first | refine bN ?_ _ | refine bD ?_ | refine bA ?_ _)); exact BK223.out)) : gb249 ≠ gb223))
                   have n15_ := aaM ((by rw [hg]; exact Nat.ne_of_lt (bL (g := gb248) (by (with_reducible repeat (first | refine bN ?_ _ | refine bD ?_ | refine bA ?_ _)); exact BK248.out)) : gb248 ≠ gb249))
                   have n16_ := aaM ((by rw [hg]; exact Nat.ne_of_gt (bL (g := gb248) (by (with_reducible repeat (first | refine bN ?_ _ | refine bD ?_ | refine bA ?_ _)); exact BK248.out)) : gb249 ≠ gb248))
                   clear HO_11 HO_12 HO_224003 HO_224004 BK211 BK223 BK248 HB
                   have HO_11 := n0_
                   have HO_12 := n1_
                   have HO_224003 := n2_
                   have HO_224004 := n3_
                   have BK211 := n4_
                   have BK223 := n5_
                   have BK248 := n6_
                   have HB := n7_
                   have BK249 := n8_
                   have GW249 := n9_
                   have GE249 := n10_
                   have NB211_249 := n11_
                   have NB249_211 := n12_
                   have NB223_249 := n13_
                   have NB249_223 := n14_
                   have NB248_249 := n15_
                   have NB249_248 := n16_
                   clear n0_ n1_ n2_ n3_ n4_ n5_ n6_ n7_ n8_ n9_ n10_ n11_ n12_ n13_ n14_ n15_ n16_ hb hbox hg
                   refine hK.out _ _ ⟨(bC BK223.out 0).trans rfl, (bC BK223.out 1).trans rfl, (bC BK223.out 2).trans rfl, (bC BK223.out 3).trans rfl, (bC BK223.out 4).trans rfl, (bC BK223.out 5).trans rfl, HS6_⟩ (fun hHeld => ?_)
                   clear hK K
                   refine norm_ (a' := ?_) ?_ ?_
                   rotate_left
                   ·show Act.put _ (some 16) _ = _
                    simp only [Act.put, ssB, ssZ, ssS, i64_w, i32_w]
                    rfl
                   exact norm_ (by first | (simp only [putAll, Act.put, ssB, ssZ, ssS]; done) | (simp only [putAll, Act.put, ssB, ssZ, ssS]; rfl)) (hJ10_11 (gb248, gb249) _ ⟨hHeld, (by (with_reducible repeat (first | apply rrA | apply rrN | apply rrD)); exact Kd.R_mono HO_11.out (fun _ hk => hk.2)), (by (with_reducible repeat (first | apply rrA | apply rrN | apply rrD)); exact HO_12.out), (by (with_reducible repeat (first | apply rrA | apply rrN | apply rrD)); exact HO_224003.out), (by (with_reducible repeat (first | apply rrA | apply rrN | apply rrD)); exact HO_224004.out), (by (with_reducible repeat (first | refine bN ?_ _ | refine bD ?_ | refine bA ?_ _)); exact BK211.out), (by (with_reducible repeat (first | refine bN ?_ _ | refine bD ?_ | refine bA ?_ _)); exact BK223.out), (by (with_reducible repeat (first | refine bN ?_ _ | refine bD ?_ | refine bA ?_ _)); exact BK248.out), (by (with_reducible repeat (first | refine bN ?_ _ | refine bD ?_ | refine bA ?_ _)); exact BK249.out), GW248.out, GE248.out, NB211_248.out, NB248_211.out, NB223_248.out, NB248_223.out, NB249_248.out, NB248_249.out, GW249.out, GE249.out, NB211_249.out, NB249_211.out, NB223_249.out, NB249_223.out, (by repeat (first | (with_reducible first | exact HB.out | apply lA | apply lN | apply lD | refine lS ?_ GE211.out | refine lS ?_ GE223.out | refine lS ?_ GE248.out | refine lS ?_ GE249.out) | exact HB.out))⟩)
                ·skip
                 rintro ⟨v238, v241⟩ w52 ⟨hS_, h0_, h1_, h2_, h3_, h4_, h5_, h6_, h7_, h8_⟩
                 have n0_ : Aside0 (Kd.R (Kd.int .i64) 3 w52 w.heap.size (fun k_ => some k_ ≠ (.slice (some ad233) t227.length co36 : Value).ownBlock ∧ some k_ ≠ (.slice Ao33 x224003_1.length co33 : Value).ownBlock) v238 t237) := ⟨h0_⟩
                 have n1_ : Aside0 (Kd.R Kd.bool 4 w52 w.heap.size (fun k_ => some k_ ≠ (.slice Ao34 x224004_1.length co34 : Value).ownBlock) v241 t240) := ⟨h1_⟩
                 have n2_ : Aside0 (Kd.R k52 52 w52 w.heap.size (fun _ => True) (.slice Ao37 x11_1.length co37) x11_1) := ⟨h2_⟩
                 have n3_ : Aside0 (Kd.R (Kd.int .i64) 3 w52 w.heap.size (fun k_ => some k_ ≠ (v238 : Value).ownBlock ∧ some k_ ≠ (.slice Ao33 x224003_1.length co33 : Value).ownBlock) (.slice (some ad233) t227.length co36) t227) := ⟨h3_⟩
                 have n4_ : Aside0 (Kd.R (Kd.int .i64) 3 w52 w.heap.size (fun k_ => some k_ ≠ (v238 : Value).ownBlock ∧ some k_ ≠ (.slice (some ad233) t227.length co36 : Value).ownBlock) (.slice Ao33 x224003_1.length co33) x224003_1) := ⟨h4_⟩
                 have n5_ : Aside0 (Kd.R Kd.bool 4 w52 w.heap.size (fun k_ => some k_ ≠ (v241 : Value).ownBlock) (.slice Ao34 x224004_1.length co34) x224004_1) := ⟨h5_⟩
                 have n6_ : Aside0 (w52.heap[gb211]? = some (.cells #[.int .i64 x212000_1, .int .i64 x212001_1, .int .i64 x212002_1, .slice none 0 0, .slice none 0 0, .bool x212005_1] 42 (0, 0))) := ⟨h6_⟩
                 have n7_ : Aside0 (w52.heap[gb223]? = some (.cells #[.int .i64 x224000_1, .int .i64 x224001_1, .int .i64 x224002_1, .slice Ao33 x224003_1.length co33, .slice Ao34 x224004_1.length co34, .bool x224005_1] 42 (0, 0))) := ⟨h7_⟩
                 have n8_ : Aside0 (Below w.heap.size w w52) := ⟨h8_⟩
                 clear HO_11 HO_12 HO_224003 HO_224004 BK211 BK223 HB h0_ h1_ h2_ h3_ h4_ h5_ h6_ h7_ h8_
                 have HO239 := n0_
                 have HO242 := n1_
                 have HO_11 := n2_
                 have HO_12 := n3_
                 have HO_224003 := n4_
                 have HO_224004 := n5_
                 have BK211 := n6_
                 have BK223 := n7_
                 have HB := n8_
                 clear n0_ n1_ n2_ n3_ n4_ n5_ n6_ n7_ n8_
                 have hHeld : w52.cell? ⟨gb223, 0, none⟩ = some (.int .i64 x224000_1) ∧ w52.cell? ⟨gb223, 1, none⟩ = some (.int .i64 x224001_1) ∧ w52.cell? ⟨gb223, 2, none⟩ = some (.int .i64 x224002_1) ∧ w52.cell? ⟨gb223, 3, none⟩ = some (.slice Ao33 x224003_1.length co33) ∧ w52.cell? ⟨gb223, 4, none⟩ = some (.slice Ao34 x224004_1.length co34) ∧ w52.cell? ⟨gb223, 5, none⟩ = some (.bool x224005_1) ∧ w52.cell? (ad233.add (x13_39).toNat) = some (.int .i64 (rd t227 x13_39)) := hS_
                 refine norm_ (a' := ?_) ?_ ?_
                 rotate_left
                 ·simp only [putAll, Act.put, ssB, ssZ, ssS]
                  rfl
                 refine two_ (i := 10) (j := 11) (Ni := some 15) (Nj := some 16) #[true, true, true, true, true, true, true, true, true, true, true, false, false, false, false] #[true, true, true, true, true, true, true, true, true, true, false, true, false, false, false] rfl rfl rfl rfl (two_of HT_.out (by kernel_rfl)) (by decide) (by decide) (fun K hK => ?_) (fun K hK => ?_)
                 ·skip
                  refine box_step ?hg (N := 15) ?hd (cs := #[.int .i64 0, .int .i64 0, .int .i64 0, .slice none 0 0, .slice none 0 0, .bool false]) (t := 42) ?hr ?_; (case hd => rfl); (case hg => rfl); (case hr => first | (go_simp; done) | (go_simp; rfl))
                  intro gb248 hg w53 hbox hb
                  have HS6_ := (hb.cell (World.block_lt_of_cell? _ _ (hHeld.2.2.2.2.2.2))).trans (hHeld.2.2.2.2.2.2)
                  have n0_ := aaM (rrB (by (with_reducible repeat (first | apply rrA | apply rrN | apply rrD)); exact HO_11.out) hb)
                  have n1_ := aaM (rrB (by (with_reducible repeat (first | apply rrA | apply rrN | apply rrD)); exact HO_12.out) hb)
                  have n2_ := aaM (rrB (by (with_reducible repeat (first | apply rrA | apply rrN | apply rrD)); exact HO_224003.out) hb)
                  have n3_ := aaM (rrB (by (with_reducible repeat (first | apply rrA | apply rrN | apply rrD)); exact HO_224004.out) hb)
                  have n4_ := aaM (rrB (by (with_reducible repeat (first | apply rrA | apply rrN | apply rrD)); exact HO239.out) hb)
                  have n5_ := aaM (rrB (by (with_reducible repeat (first | apply rrA | apply rrN | apply rrD)); exact HO242.out) hb)
                  have n6_ := aaM (bB (g := gb211) (o := .cells #[.int .i64 x212000_1, .int .i64 x212001_1, .int .i64 x212002_1, .slice none 0 0, .slice none 0 0, .bool x212005_1] 42 (0, 0)) (by (with_reducible repeat (first | refine bN ?_ _ | refine bD ?_ | refine bA ?_ _)); exact BK211.out) hb)
                  have n7_ := aaM (bB (g := gb223) (o := .cells #[.int .i64 x224000_1, .int .i64 x224001_1, .int .i64 x224002_1, .slice Ao33 x224003_1.length co33, .slice Ao34 x224004_1.length co34, .bool x224005_1] 42 (0, 0)) (by (with_reducible repeat (first | refine bN ?_ _ | refine bD ?_ | refine bA ?_ _)); exact BK223.out) hb)
                  have n8_ := aaM (lP (by repeat (first | (with_reducible first | exact HB.out | apply lA | apply lN | apply lD | refine lS ?_ GE211.out | refine lS ?_ GE223.out) | exact HB.out)) hb)
                  have n9_ := aaM (hbox)
                  have n10_ := aaM ((by rw [hg]; exact (lZ (by repeat (first | (with_reducible first | exact HB.out | apply lA | apply lN | apply lD | refine lS ?_ GE211.out | refine lS ?_ GE223.out) | exact HB.out))) : w.heap.size ≤ gb248))
                  have n11_ := aaM ((by rw [hg]; exact (lZ (by repeat (first | (with_reducible first | exact HB.out | apply lA | apply lN | apply lD | refine lS ?_ GE211.out | refine lS ?_ GE223.out) | exact HB.out))) : w.heap.size ≤ gb248))
                  have n12_ := aaM ((by rw [hg]; exact Nat.ne_of_lt (bL (g := gb211) (by (with_reducible repeat (first | refine bN ?_ _ | refine bD ?_ | refine bA ?_ _)); exact BK211.out)) : gb211 ≠ gb248))
                  have n13_ := aaM ((by rw [hg]; exact Nat.ne_of_gt (bL (g := gb211) (by (with_reducible repeat (first | refine bN ?_ _ | refine bD ?_ | refine bA ?_ _)); exact BK211.out)) : gb248 ≠ gb211))
                  have n14_ := aaM ((by rw [hg]; exact Nat.ne_of_lt (bL (g := gb223) (by (with_reducible repeat (first | refine bN ?_ _ | refine bD ?_ | refine bA ?_ _)); exact BK223.out)) : gb223 ≠ gb248))
                  have n15_ := aaM ((by rw [hg]; exact Nat.ne_of_gt (bL (g := gb223) (by (with_reducible repeat (first | refine bN ?_ _ | refine bD ?_ | refine bA ?_ _)); exact BK223.out)) : gb248 ≠ gb223))
                  clear HO_11 HO_12 HO_224003 HO_224004 HO239 HO242 BK211 BK223 HB
                  have HO_11 := n0_
                  have HO_12 := n1_
                  have HO_224003 := n2_
                  have HO_224004 := n3_
                  have HO239 := n4_
                  have HO242 := n5_
                  have BK211 := n6_
                  have BK223 := n7_
                  have HB := n8_
                  have BK248 := n9_
                  have GW248 := n10_
                  have GE248 := n11_
                  have NB211_248 := n12_
                  have NB248_211 := n13_
                  have NB223_248 := n14_
                  have NB248_223 := n15_
                  clear n0_ n1_ n2_ n3_ n4_ n5_ n6_ n7_ n8_ n9_ n10_ n11_ n12_ n13_ n14_ n15_ hb hbox hg
                  refine hK.out _ _ ⟨(bC BK223.out 0).trans rfl, (bC BK223.out 1).trans rfl, (bC BK223.out 2).trans rfl, (bC BK223.out 3).trans rfl, (bC BK223.out 4).trans rfl, (bC BK223.out 5).trans rfl, HS6_⟩ (fun hHeld => ?_)
                  clear hK K
                  refine norm_ (a' := ?_) ?_ ?_
                  rotate_left
                  ·show Act.put _ (some 15) _ = _
                   simp only [Act.put, ssB, ssZ, ssS, i64_w, i32_w]
                   rfl
                  exact norm_ (by first | (simp only [putAll, Act.put, ssB, ssZ, ssS]; done) | (simp only [putAll, Act.put, ssB, ssZ, ssS]; rfl)) (hJ5_10 (v238, v241, gb248) _ ⟨hHeld, (by (with_reducible repeat (first | apply rrA | apply rrN | apply rrD)); exact HO239.out), (by (with_reducible repeat (first | apply rrA | apply rrN | apply rrD)); exact HO242.out), (by (with_reducible repeat (first | apply rrA | apply rrN | apply rrD)); exact HO_11.out), (by (with_reducible repeat (first | apply rrA | apply rrN | apply rrD)); exact HO_12.out), (by (with_reducible repeat (first | apply rrA | apply rrN | apply rrD)); exact HO_224003.out), (by (with_reducible repeat (first | apply rrA | apply rrN | apply rrD)); exact HO_224004.out), (by (with_reducible repeat (first | refine bN ?_ _ | refine bD ?_ | refine bA ?_ _)); exact BK211.out), (by (with_reducible repeat (first | refine bN ?_ _ | refine bD ?_ | refine bA ?_ _)); exact BK223.out), (by (with_reducible repeat (first | refine bN ?_ _ | refine bD ?_ | refine bA ?_ _)); exact BK248.out), GW248.out, GE248.out, NB211_248.out, NB248_211.out, NB223_248.out, NB248_223.out, (by repeat (first | (with_reducible first | exact HB.out | apply lA | apply lN | apply lD | refine lS ?_ GE211.out | refine lS ?_ GE223.out | refine lS ?_ GE248.out) | exact HB.out))⟩)
                 ·skip
                  refine box_step ?hg (N := 16) ?hd (cs := #[.int .i64 0, .int .i64 0, .int .i64 0]) (t := 52) ?hr ?_; (case hd => rfl); (case hg => rfl); (case hr => first | (go_simp; done) | (go_simp; rfl))
                  intro gb249 hg w53 hbox hb
                  have HS6_ := (hb.cell (World.block_lt_of_cell? _ _ (hHeld.2.2.2.2.2.2))).trans (hHeld.2.2.2.2.2.2)
                  have n0_ := aaM (rrB (Kd.R_elderB (by (with_reducible repeat (first | apply rrA | apply rrN | apply rrD)); exact HO_11.out) gb249 (Nat.le_of_eq hg.symm)) hb)
                  have n1_ := aaM (rrB (by (with_reducible repeat (first | apply rrA | apply rrN | apply rrD)); exact HO_12.out) hb)
                  have n2_ := aaM (rrB (by (with_reducible repeat (first | apply rrA | apply rrN | apply rrD)); exact HO_224003.out) hb)
                  have n3_ := aaM (rrB (by (with_reducible repeat (first | apply rrA | apply rrN | apply rrD)); exact HO_224004.out) hb)
                  have n4_ := aaM (rrB (by (with_reducible repeat (first | apply rrA | apply rrN | apply rrD)); exact HO239.out) hb)
                  have n5_ := aaM (rrB (by (with_reducible repeat (first | apply rrA | apply rrN | apply rrD)); exact HO242.out) hb)
                  have n6_ := aaM (bB (g := gb211) (o := .cells #[.int .i64 x212000_1, .int .i64 x212001_1, .int .i64 x212002_1, .slice none 0 0, .slice none 0 0, .bool x212005_1] 42 (0, 0)) (by (with_reducible repeat (first | refine bN ?_ _ | refine bD ?_ | refine bA ?_ _)); exact BK211.out) hb)
                  have n7_ := aaM (bB (g := gb223) (o := .cells #[.int .i64 x224000_1, .int .i64 x224001_1, .int .i64 x224002_1, .slice Ao33 x224003_1.length co33, .slice Ao34 x224004_1.length co34, .bool x224005_1] 42 (0, 0)) (by (with_reducible repeat (first | refine bN ?_ _ | refine bD ?_ | refine bA ?_ _)); exact BK223.out) hb)
                  have n8_ := aaM (lP (by repeat (first | (with_reducible first | exact HB.out | apply lA | apply lN | apply lD | refine lS ?_ GE211.out | refine lS ?_ GE223.out) | exact HB.out)) hb)
                  have n9_ := aaM (hbox)
                  have n10_ := aaM ((by rw [hg]; exact (lZ (by repeat (first | (with_reducible first | exact HB.out | apply lA | apply lN | apply lD | refine lS ?_ GE211.out | refine lS ?_ GE223.out) | exact HB.out))) : w.heap.size ≤ gb249))
                  have n11_ := aaM ((by rw [hg]; exact (lZ (by repeat (first | (with_reducible first | exact HB.out | apply lA | apply lN | apply lD | refine lS ?_ GE211.out | refine lS ?_ GE223.out) | exact HB.out))) : w.heap.size ≤ gb249))
                  have n12_ := aaM ((by rw [hg]; exact Nat.ne_of_lt (bL (g := gb211) (by (with_reducible repeat (first | refine bN ?_ _ | refine bD ?_ | refine bA ?_ _)); exact BK211.out)) : gb211 ≠ gb249))
                  have n13_ := aaM ((by rw [hg]; exact Nat.ne_of_gt (bL (g := gb211) (by (with_reducible repeat (first | refine bN ?_ _ | refine bD ?_ | refine bA ?_ _)); exact BK211.out)) : gb249 ≠ gb211))
                  have n14_ := aaM ((by rw [hg]; exact Nat.ne_of_lt (bL (g := gb223) (by (with_reducible repeat (first | refine bN ?_ _ | refine bD ?_ | refine bA ?_ _)); exact BK223.out)) : gb223 ≠ gb249))
                  have n15_ := aaM ((by rw [hg]; exact Nat.ne_of_gt (bL (g := gb223) (by (with_reducible repeat (first | refine bN ?_ _ | refine bD ?_ | refine bA ?_ _)); exact BK223.out)) : gb249 ≠ gb223))
                  clear HO_11 HO_12 HO_224003 HO_224004 HO239 HO242 BK211 BK223 HB
                  have HO_11 := n0_
                  have HO_12 := n1_
                  have HO_224003 := n2_
                  have HO_224004 := n3_
                  have HO239 := n4_
                  have HO242 := n5_
                  have BK211 := n6_
                  have BK223 := n7_
                  have HB := n8_
                  have BK249 := n9_
                  have GW249 := n10_
                  have GE249 := n11_
                  have NB211_249 := n12_
                  have NB249_211 := n13_
                  have NB223_249 := n14_
                  have NB249_223 := n15_
                  clear n0_ n1_ n2_ n3_ n4_ n5_ n6_ n7_ n8_ n9_ n10_ n11_ n12_ n13_ n14_ n15_ hb hbox hg
                  refine hK.out _ _ ⟨(bC BK223.out 0).trans rfl, (bC BK223.out 1).trans rfl, (bC BK223.out 2).trans rfl, (bC BK223.out 3).trans rfl, (bC BK223.out 4).trans rfl, (bC BK223.out 5).trans rfl, HS6_⟩ (fun hHeld => ?_)
                  clear hK K
                  refine norm_ (a' := ?_) ?_ ?_
                  rotate_left
                  ·show Act.put _ (some 16) _ = _
                   simp only [Act.put, ssB, ssZ, ssS, i64_w, i32_w]
                   rfl
                  exact norm_ (by first | (simp only [putAll, Act.put, ssB, ssZ, ssS]; done) | (simp only [putAll, Act.put, ssB, ssZ, ssS]; rfl)) (hJ5_11 (v238, v241, gb249) _ ⟨hHeld, (by (with_reducible repeat (first | apply rrA | apply rrN | apply rrD)); exact HO239.out), (by (with_reducible repeat (first | apply rrA | apply rrN | apply rrD)); exact HO242.out), (by (with_reducible repeat (first | apply rrA | apply rrN | apply rrD)); exact Kd.R_mono HO_11.out (fun _ hk => hk.2)), (by (with_reducible repeat (first | apply rrA | apply rrN | apply rrD)); exact HO_12.out), (by (with_reducible repeat (first | apply rrA | apply rrN | apply rrD)); exact HO_224003.out), (by (with_reducible repeat (first | apply rrA | apply rrN | apply rrD)); exact HO_224004.out), (by (with_reducible repeat (first | refine bN ?_ _ | refine bD ?_ | refine bA ?_ _)); exact BK211.out), (by (with_reducible repeat (first | refine bN ?_ _ | refine bD ?_ | refine bA ?_ _)); exact BK223.out), (by (with_reducible repeat (first | refine bN ?_ _ | refine bD ?_ | refine bA ?_ _)); exact BK249.out), GW249.out, GE249.out, NB211_249.out, NB249_211.out, NB223_249.out, NB249_223.out, (by repeat (first | (with_reducible first | exact HB.out | apply lA | apply lN | apply lD | refine lS ?_ GE211.out | refine lS ?_ GE223.out | refine lS ?_ GE249.out) | exact HB.out))⟩)
               ·skip
                rintro ⟨gb248, gb249⟩ w53 ⟨hS_, h0_, h1_, h2_, h3_, h4_, h5_, h6_, h7_, h8_, h9_, h10_, h11_, h12_, h13_, h14_, h15_, h16_, h17_, h18_, h19_, h20_, h21_, h22_⟩
                have n0_ : Aside0 (Kd.R k52 52 w53 w.heap.size (fun k_ => k_ ≠ gb249) (.slice Ao37 x11_1.length co37) x11_1) := ⟨h0_⟩
                have n1_ : Aside0 (Kd.R (Kd.int .i64) 3 w53 w.heap.size (fun k_ => some k_ ≠ (.slice Ao33 x224003_1.length co33 : Value).ownBlock) (.slice (some ad233) t227.length co36) t227) := ⟨h1_⟩
                have n2_ : Aside0 (Kd.R (Kd.int .i64) 3 w53 w.heap.size (fun k_ => some k_ ≠ (.slice (some ad233) t227.length co36 : Value).ownBlock) (.slice Ao33 x224003_1.length co33) x224003_1) := ⟨h2_⟩
                have n3_ : Aside0 (Kd.R Kd.bool 4 w53 w.heap.size (fun _ => True) (.slice Ao34 x224004_1.length co34) x224004_1) := ⟨h3_⟩
                have n4_ : Aside0 (w53.heap[gb211]? = some (.cells #[.int .i64 x212000_1, .int .i64 x212001_1, .int .i64 x212002_1, .slice none 0 0, .slice none 0 0, .bool x212005_1] 42 (0, 0))) := ⟨h4_⟩
                have n5_ : Aside0 (w53.heap[gb223]? = some (.cells #[.int .i64 x224000_1, .int .i64 x224001_1, .int .i64 x224002_1, .slice Ao33 x224003_1.length co33, .slice Ao34 x224004_1.length co34, .bool x224005_1] 42 (0, 0))) := ⟨h5_⟩
                have n6_ : Aside0 (w53.heap[gb248]? = some (.cells #[.int .i64 0, .int .i64 0, .int .i64 0, .slice none 0 0, .slice none 0 0, .bool false] 42 (0, 0))) := ⟨h6_⟩
                have n7_ : Aside0 (w53.heap[gb249]? = some (.cells #[.int .i64 0, .int .i64 0, .int .i64 0] 52 (0, 0))) := ⟨h7_⟩
                have n8_ : Aside0 (w.heap.size ≤ gb248) := ⟨h8_⟩
                have n9_ : Aside0 (w.heap.size ≤ gb248) := ⟨h9_⟩
                have n10_ : Aside0 (gb211 ≠ gb248) := ⟨h10_⟩
                have n11_ : Aside0 (gb248 ≠ gb211) := ⟨h11_⟩
                have n12_ : Aside0 (gb223 ≠ gb248) := ⟨h12_⟩
                have n13_ : Aside0 (gb248 ≠ gb223) := ⟨h13_⟩
                have n14_ : Aside0 (gb249 ≠ gb248) := ⟨h14_⟩
                have n15_ : Aside0 (gb248 ≠ gb249) := ⟨h15_⟩
                have n16_ : Aside0 (w.heap.size ≤ gb249) := ⟨h16_⟩
                have n17_ : Aside0 (w.heap.size ≤ gb249) := ⟨h17_⟩
                have n18_ : Aside0 (gb211 ≠ gb249) := ⟨h18_⟩
                have n19_ : Aside0 (gb249 ≠ gb211) := ⟨h19_⟩
                have n20_ : Aside0 (gb223 ≠ gb249) := ⟨h20_⟩
                have n21_ : Aside0 (gb249 ≠ gb223) := ⟨h21_⟩
                have n22_ : Aside0 (Below w.heap.size w w53) := ⟨h22_⟩
                clear HO_11 HO_12 HO_224003 HO_224004 BK211 BK223 HB h0_ h1_ h2_ h3_ h4_ h5_ h6_ h7_ h8_ h9_ h10_ h11_ h12_ h13_ h14_ h15_ h16_ h17_ h18_ h19_ h20_ h21_ h22_
                have HO_11 := n0_
                have HO_12 := n1_
                have HO_224003 := n2_
                have HO_224004 := n3_
                have BK211 := n4_
                have BK223 := n5_
                have BK248 := n6_
                have BK249 := n7_
                have GW248 := n8_
                have GE248 := n9_
                have NB211_248 := n10_
                have NB248_211 := n11_
                have NB223_248 := n12_
                have NB248_223 := n13_
                have NB249_248 := n14_
                have NB248_249 := n15_
                have GW249 := n16_
                have GE249 := n17_
                have NB211_249 := n18_
                have NB249_211 := n19_
                have NB223_249 := n20_
                have NB249_223 := n21_
                have HB := n22_
                clear n0_ n1_ n2_ n3_ n4_ n5_ n6_ n7_ n8_ n9_ n10_ n11_ n12_ n13_ n14_ n15_ n16_ n17_ n18_ n19_ n20_ n21_ n22_
                have hHeld : w53.cell? ⟨gb223, 0, none⟩ = some (.int .i64 x224000_1) ∧ w53.cell? ⟨gb223, 1, none⟩ = some (.int .i64 x224001_1) ∧ w53.cell? ⟨gb223, 2, none⟩ = some (.int .i64 x224002_1) ∧ w53.cell? ⟨gb223, 3, none⟩ = some (.slice Ao33 x224003_1.length co33) ∧ w53.cell? ⟨gb223, 4, none⟩ = some (.slice Ao34 x224004_1.length co34) ∧ w53.cell? ⟨gb223, 5, none⟩ = some (.bool x224005_1) ∧ w53.cell? (ad233.add (x13_39).toNat) = some (.int .i64 (rd t227 x13_39)) := hS_
                refine norm_ (a' := ?_) ?_ ?_
                rotate_left
                ·simp only [putAll, Act.put, ssB, ssZ, ssS]
                 rfl
                refine one_ (i := 5) (N := some 70) #[true, true, true, true, true, true, false, false, false, false, true, true, false, false, false] rfl rfl (one_of HT_.out (by kernel_rfl)) (by decide) (fun K hK => ?_)
                refine goes_ Try.func37 (by kernel_rfl) rfl #[.agg #[.int .i64 x224000_1, .int .i64 x224001_1, .int .i64 x224002_1, .slice Ao33 x224003_1.length co33, .slice Ao34 x224004_1.length co34, .bool x224005_1], .int .i64 (rd t227 x13_39)] (by rfl) rfl rfl (by (try simp only [List.map_toArray, List.map_cons, List.map_nil]); first | done | rfl | (simp only [List.length_drop, List.length_take]; rfl)) ?_
                with_reducible refine (hornbeamref21_Step.calls kj39 x224000_1 x224001_1 x224002_1 _ _ x224003_1 _ _ x224004_1 x224005_1 (rd t227 x13_39) t234 t235 t236 t237 t240 t243 t244 t245 t246 t247 _ ?side1 ?side2 ?side3 ?side4 A48.out).mono ?_
                (case side1 => repeat (first | exact (Kd.R_reads' HO_224003.out).2.2 | (with_reducible refine ccA ?_ _) | (with_reducible refine ccN ?_ _) | (with_reducible refine ccD ?_)))
                (case side2 => exact (Kd.R_reads' HO_224003.out).2.1)
                (case side3 => repeat (first | exact (Kd.R_reads' HO_224004.out).2.2 | (with_reducible refine ccA ?_ _) | (with_reducible refine ccN ?_ _) | (with_reducible refine ccD ?_)))
                (case side4 => exact (Kd.R_reads' HO_224004.out).2.1)
                rintro e w54 ⟨v238, v241, rfl, ho0, ho1, hb⟩
                have HS6_ := (hb.cell (World.block_lt_of_cell? _ _ (hHeld.2.2.2.2.2.2))).trans (hHeld.2.2.2.2.2.2)
                refine ⟨_, rfl, ?_⟩
                have n0_ := aaM (rrB (by (with_reducible repeat (first | apply rrA | apply rrN | apply rrD)); exact HO_11.out) hb)
                have n1_ := aaM (Kd.R_elder' (by (with_reducible repeat (first | apply rrA | apply rrN | apply rrD)); exact HO_12.out) (Kd.R_base ho0) hb)
                have n2_ := aaM (Kd.R_elder' (by (with_reducible repeat (first | apply rrA | apply rrN | apply rrD)); exact HO_224003.out) (Kd.R_base ho0) hb)
                have n3_ := aaM (Kd.R_elder' (by (with_reducible repeat (first | apply rrA | apply rrN | apply rrD)); exact HO_224004.out) (Kd.R_base ho1) hb)
                have n4_ := aaM (Kd.R_lower (Kd.R_new' (Kd.R_new' ho0 (Kd.R_lt (by (with_reducible repeat (first | apply rrA | apply rrN | apply rrD)); exact HO_12.out))) (Kd.R_lt (by (with_reducible repeat (first | apply rrA | apply rrN | apply rrD)); exact HO_224003.out))) (lZ (by repeat (first | (with_reducible first | exact HB.out | apply lA | apply lN | apply lD | refine lS ?_ GE211.out | refine lS ?_ GE223.out | refine lS ?_ GE248.out | refine lS ?_ GE249.out) | exact HB.out))))
                have n5_ := aaM (Kd.R_lower (Kd.R_new' ho1 (Kd.R_lt (by (with_reducible repeat (first | apply rrA | apply rrN | apply rrD)); exact HO_224004.out))) (lZ (by repeat (first | (with_reducible first | exact HB.out | apply lA | apply lN | apply lD | refine lS ?_ GE211.out | refine lS ?_ GE223.out | refine lS ?_ GE248.out | refine lS ?_ GE249.out) | exact HB.out))))
                have n6_ := aaM (bB (g := gb211) (o := .cells #[.int .i64 x212000_1, .int .i64 x212001_1, .int .i64 x212002_1, .slice none 0 0, .slice none 0 0, .bool x212005_1] 42 (0, 0)) (by (with_reducible repeat (first | refine bN ?_ _ | refine bD ?_ | refine bA ?_ _)); exact BK211.out) hb)
                have n7_ := aaM (bB (g := gb223) (o := .cells #[.int .i64 x224000_1, .int .i64 x224001_1, .int .i64 x224002_1, .slice Ao33 x224003_1.length co33, .slice Ao34 x224004_1.length co34, .bool x224005_1] 42 (0, 0)) (by (with_reducible repeat (first | refine bN ?_ _ | refine bD ?_ | refine bA ?_ _)); exact BK223.out) hb)
                have n8_ := aaM (bB (g := gb248) (o := .cells #[.int .i64 0, .int .i64 0, .int .i64 0, .slice none 0 0, .slice none 0 0, .bool false] 42 (0, 0)) (by (with_reducible repeat (first | refine bN ?_ _ | refine bD ?_ | refine bA ?_ _)); exact BK248.out) hb)
                have n9_ := aaM (bB (g := gb249) (o := .cells #[.int .i64 0, .int .i64 0, .int .i64 0] 52 (0, 0)) (by (with_reducible repeat (first | refine bN ?_ _ | refine bD ?_ | refine bA ?_ _)); exact BK249.out) hb)
                have n10_ := aaM (lP (by repeat (first | (with_reducible first | exact HB.out | apply lA | apply lN | apply lD | refine lS ?_ GE211.out | refine lS ?_ GE223.out | refine lS ?_ GE248.out | refine lS ?_ GE249.out) | exact HB.out)) hb)
                clear HO_11 HO_12 HO_224003 HO_224004 BK211 BK223 BK248 BK249 HB
                have HO_11 := n0_
                have HO_12 := n1_
                have HO_224003 := n2_
                have HO_224004 := n3_
                have HO239 := n4_
                have HO242 := n5_
                have BK211 := n6_
                have BK223 := n7_
                have BK248 := n8_
                have BK249 := n9_
                have HB := n10_
                clear n0_ n1_ n2_ n3_ n4_ n5_ n6_ n7_ n8_ n9_ n10_
                (try clear hb)
                (try clear hb2)
                (try clear hk)
                (try clear hi)
                (try clear ho0)
                (try clear ho1)
                refine hK.out _ _ ⟨(bC BK223.out 0).trans rfl, (bC BK223.out 1).trans rfl, (bC BK223.out 2).trans rfl, (bC BK223.out 3).trans rfl, (bC BK223.out 4).trans rfl, (bC BK223.out 5).trans rfl, HS6_⟩ (fun hHeld => ?_)
                clear hK K
                refine norm_ (a' := ?_) ?_ ?_
                rotate_left
                ·show Act.put _ (some 70) _ = _
                 simp only [Act.put, ssB, ssZ, ssS, i64_w, i32_w]
                 rfl
                refine pure_ (i := 6) (N := some 64) (v := ?_) (a' := ?_) #[true, true, true, true, true, true, true, false, false, false, true, true, false, false, false] rfl rfl (any_of HT_.out (by kernel_rfl)) (fun _ _ _ h => h) (Or.inl ⟨by rfl, ?_⟩) ?_ ?_
                rotate_left
                ·intro w'
                 go_simp
                 with_reducible rfl
                rotate_left
                ·simp only [Act.put, ssB, ssZ, ssS, i64_w, i32_w]
                 rfl
                refine pure_ (i := 7) (N := some 71) (v := ?_) (a' := ?_) #[true, true, true, true, true, true, true, true, false, false, true, true, false, false, false] rfl rfl (any_of HT_.out (by kernel_rfl)) (fun _ _ _ h => h) (Or.inl ⟨by rfl, ?_⟩) ?_ ?_
                rotate_left
                ·intro w'
                 go_simp
                 with_reducible rfl
                rotate_left
                ·simp only [Act.put, ssB, ssZ, ssS, i64_w, i32_w]
                 rfl
                refine pure_ (i := 8) (N := some 72) (v := ?_) (a' := ?_) #[true, true, true, true, true, true, true, true, true, false, true, true, false, false, false] rfl rfl (any_of HT_.out (by kernel_rfl)) (fun _ _ _ h => h) (Or.inl ⟨by rfl, ?_⟩) ?_ ?_
                rotate_left
                ·intro w'
                 go_simp
                 with_reducible rfl
                rotate_left
                ·simp only [Act.put, ssB, ssZ, ssS, i64_w, i32_w]
                 rfl
                refine pure_ (i := 9) (N := some 73) (v := ?_) (a' := ?_) #[true, true, true, true, true, true, true, true, true, true, true, true, false, false, false] rfl rfl (any_of HT_.out (by kernel_rfl)) (fun _ _ _ h => h) (Or.inl ⟨by rfl, ?_⟩) ?_ ?_
                rotate_left
                ·intro w'
                 go_simp
                 with_reducible rfl
                rotate_left
                ·simp only [Act.put, ssB, ssZ, ssS, i64_w, i32_w]
                 rfl
                exact norm_ (by first | (simp only [putAll, Act.put, ssB, ssZ, ssS]; done) | (simp only [putAll, Act.put, ssB, ssZ, ssS]; rfl)) (hJ5_10_11 (v238, v241, gb248, gb249) _ ⟨hHeld, (by (with_reducible repeat (first | apply rrA | apply rrN | apply rrD)); exact Kd.R_mono HO239.out (fun _ hk => ⟨hk.1.2, hk.2⟩)), (by (with_reducible repeat (first | apply rrA | apply rrN | apply rrD)); exact Kd.R_mono HO242.out (fun _ hk => hk.2)), (by (with_reducible repeat (first | apply rrA | apply rrN | apply rrD)); exact HO_11.out), (by (with_reducible repeat (first | apply rrA | apply rrN | apply rrD)); exact Kd.R_mono HO_12.out (fun _ hk => ⟨hk.2, hk.1⟩)), (by (with_reducible repeat (first | apply rrA | apply rrN | apply rrD)); exact Kd.R_mono HO_224003.out (fun _ hk => ⟨hk.2, hk.1⟩)), (by (with_reducible repeat (first | apply rrA | apply rrN | apply rrD)); exact Kd.R_mono HO_224004.out (fun _ hk => hk.2)), (by (with_reducible repeat (first | refine bN ?_ _ | refine bD ?_ | refine bA ?_ _)); exact BK211.out), (by (with_reducible repeat (first | refine bN ?_ _ | refine bD ?_ | refine bA ?_ _)); exact BK223.out), (by (with_reducible repeat (first | refine bN ?_ _ | refine bD ?_ | refine bA ?_ _)); exact BK248.out), (by (with_reducible repeat (first | refine bN ?_ _ | refine bD ?_ | refine bA ?_ _)); exact BK249.out), GW248.out, GE248.out, NB211_248.out, NB248_211.out, NB223_248.out, NB248_223.out, NB249_248.out, NB248_249.out, GW249.out, GE249.out, NB211_249.out, NB249_211.out, NB223_249.out, NB249_223.out, (by repeat (first | (with_reducible first | exact HB.out | apply lA | apply lN | apply lD | refine lS ?_ GE211.out | refine lS ?_ GE223.out | refine lS ?_ GE248.out | refine lS ?_ GE249.out) | exact HB.out))⟩)
              ·skip
               rintro ⟨v238, v241, gb249⟩ w53 ⟨hS_, h0_, h1_, h2_, h3_, h4_, h5_, h6_, h7_, h8_, h9_, h10_, h11_, h12_, h13_, h14_, h15_⟩
               have n0_ : Aside0 (Kd.R (Kd.int .i64) 3 w53 w.heap.size (fun k_ => some k_ ≠ (.slice (some ad233) t227.length co36 : Value).ownBlock ∧ some k_ ≠ (.slice Ao33 x224003_1.length co33 : Value).ownBlock) v238 t237) := ⟨h0_⟩
               have n1_ : Aside0 (Kd.R Kd.bool 4 w53 w.heap.size (fun k_ => some k_ ≠ (.slice Ao34 x224004_1.length co34 : Value).ownBlock) v241 t240) := ⟨h1_⟩
               have n2_ : Aside0 (Kd.R k52 52 w53 w.heap.size (fun k_ => k_ ≠ gb249) (.slice Ao37 x11_1.length co37) x11_1) := ⟨h2_⟩
               have n3_ : Aside0 (Kd.R (Kd.int .i64) 3 w53 w.heap.size (fun k_ => some k_ ≠ (v238 : Value).ownBlock ∧ some k_ ≠ (.slice Ao33 x224003_1.length co33 : Value).ownBlock) (.slice (some ad233) t227.length co36) t227) := ⟨h3_⟩
               have n4_ : Aside0 (Kd.R (Kd.int .i64) 3 w53 w.heap.size (fun k_ => some k_ ≠ (v238 : Value).ownBlock ∧ some k_ ≠ (.slice (some ad233) t227.length co36 : Value).ownBlock) (.slice Ao33 x224003_1.length co33) x224003_1) := ⟨h4_⟩
               have n5_ : Aside0 (Kd.R Kd.bool 4 w53 w.heap.size (fun k_ => some k_ ≠ (v241 : Value).ownBlock) (.slice Ao34 x224004_1.length co34) x224004_1) := ⟨h5_⟩
               have n6_ : Aside0 (w53.heap[gb211]? = some (.cells #[.int .i64 x212000_1, .int .i64 x212001_1, .int .i64 x212002_1, .slice none 0 0, .slice none 0 0, .bool x212005_1] 42 (0, 0))) := ⟨h6_⟩
               have n7_ : Aside0 (w53.heap[gb223]? = some (.cells #[.int .i64 x224000_1, .int .i64 x224001_1, .int .i64 x224002_1, .slice Ao33 x224003_1.length co33, .slice Ao34 x224004_1.length co34, .bool x224005_1] 42 (0, 0))) := ⟨h7_⟩
               have n8_ : Aside0 (w53.heap[gb249]? = some (.cells #[.int .i64 0, .int .i64 0, .int .i64 0] 52 (0, 0))) := ⟨h8_⟩
               have n9_ : Aside0 (w.heap.size ≤ gb249) := ⟨h9_⟩
               have n10_ : Aside0 (w.heap.size ≤ gb249) := ⟨h10_⟩
               have n11_ : Aside0 (gb211 ≠ gb249) := ⟨h11_⟩
               have n12_ : Aside0 (gb249 ≠ gb211) := ⟨h12_⟩
               have n13_ : Aside0 (gb223 ≠ gb249) := ⟨h13_⟩
               have n14_ : Aside0 (gb249 ≠ gb223) := ⟨h14_⟩
               have n15_ : Aside0 (Below w.heap.size w w53) := ⟨h15_⟩
               clear HO_11 HO_12 HO_224003 HO_224004 BK211 BK223 HB h0_ h1_ h2_ h3_ h4_ h5_ h6_ h7_ h8_ h9_ h10_ h11_ h12_ h13_ h14_ h15_
               have HO239 := n0_
               have HO242 := n1_
               have HO_11 := n2_
               have HO_12 := n3_
               have HO_224003 := n4_
               have HO_224004 := n5_
               have BK211 := n6_
               have BK223 := n7_
               have BK249 := n8_
               have GW249 := n9_
               have GE249 := n10_
               have NB211_249 := n11_
               have NB249_211 := n12_
               have NB223_249 := n13_
               have NB249_223 := n14_
               have HB := n15_
               clear n0_ n1_ n2_ n3_ n4_ n5_ n6_ n7_ n8_ n9_ n10_ n11_ n12_ n13_ n14_ n15_
               have hHeld : w53.cell? ⟨gb223, 0, none⟩ = some (.int .i64 x224000_1) ∧ w53.cell? ⟨gb223, 1, none⟩ = some (.int .i64 x224001_1) ∧ w53.cell? ⟨gb223, 2, none⟩ = some (.int .i64 x224002_1) ∧ w53.cell? ⟨gb223, 3, none⟩ = some (.slice Ao33 x224003_1.length co33) ∧ w53.cell? ⟨gb223, 4, none⟩ = some (.slice Ao34 x224004_1.length co34) ∧ w53.cell? ⟨gb223, 5, none⟩ = some (.bool x224005_1) ∧ w53.cell? (ad233.add (x13_39).toNat) = some (.int .i64 (rd t227 x13_39)) := hS_
               refine norm_ (a' := ?_) ?_ ?_
               rotate_left
               ·simp only [putAll, Act.put, ssB, ssZ, ssS]
                rfl
               refine one_ (i := 10) (N := some 15) #[true, true, true, true, true, true, true, true, true, true, true, true, false, false, false] rfl rfl (one_of HT_.out (by kernel_rfl)) (by decide) (fun K hK => ?_)
               refine box_step ?hg (N := 15) ?hd (cs := #[.int .i64 0, .int .i64 0, .int .i64 0, .slice none 0 0, .slice none 0 0, .bool false]) (t := 42) ?hr ?_; (case hd => rfl); (case hg => rfl); (case hr => first | (go_simp; done) | (go_simp; rfl))
               intro gb248 hg w54 hbox hb
               have HS6_ := (hb.cell (World.block_lt_of_cell? _ _ (hHeld.2.2.2.2.2.2))).trans (hHeld.2.2.2.2.2.2)
               have n0_ := aaM (rrB (by (with_reducible repeat (first | apply rrA | apply rrN | apply rrD)); exact HO_11.out) hb)
               have n1_ := aaM (rrB (by (with_reducible repeat (first | apply rrA | apply rrN | apply rrD)); exact HO_12.out) hb)
               have n2_ := aaM (rrB (by (with_reducible repeat (first | apply rrA | apply rrN | apply rrD)); exact HO_224003.out) hb)
               have n3_ := aaM (rrB (by (with_reducible repeat (first | apply rrA | apply rrN | apply rrD)); exact HO_224004.out) hb)
               have n4_ := aaM (rrB (by (with_reducible repeat (first | apply rrA | apply rrN | apply rrD)); exact HO239.out) hb)
               have n5_ := aaM (rrB (by (with_reducible repeat (first | apply rrA | apply rrN | apply rrD)); exact HO242.out) hb)
               have n6_ := aaM (bB (g := gb211) (o := .cells #[.int .i64 x212000_1, .int .i64 x212001_1, .int .i64 x212002_1, .slice none 0 0, .slice none 0 0, .bool x212005_1] 42 (0, 0)) (by (with_reducible repeat (first | refine bN ?_ _ | refine bD ?_ | refine bA ?_ _)); exact BK211.out) hb)
               have n7_ := aaM (bB (g := gb223) (o := .cells #[.int .i64 x224000_1, .int .i64 x224001_1, .int .i64 x224002_1, .slice Ao33 x224003_1.length co33, .slice Ao34 x224004_1.length co34, .bool x224005_1] 42 (0, 0)) (by (with_reducible repeat (first | refine bN ?_ _ | refine bD ?_ | refine bA ?_ _)); exact BK223.out) hb)
               have n8_ := aaM (bB (g := gb249) (o := .cells #[.int .i64 0, .int .i64 0, .int .i64 0] 52 (0, 0)) (by (with_reducible repeat (first | refine bN ?_ _ | refine bD ?_ | refine bA ?_ _)); exact BK249.out) hb)
               have n9_ := aaM (lP (by repeat (first | (with_reducible first | exact HB.out | apply lA | apply lN | apply lD | refine lS ?_ GE211.out | refine lS ?_ GE223.out | refine lS ?_ GE249.out) | exact HB.out)) hb)
               have n10_ := aaM (hbox)
               have n11_ := aaM ((by rw [hg]; exact (lZ (by repeat (first | (with_reducible first | exact HB.out | apply lA | apply lN | apply lD | refine lS ?_ GE211.out | refine lS ?_ GE223.out | refine lS ?_ GE249.out) | exact HB.out))) : w.heap.size ≤ gb248))
               have n12_ := aaM ((by rw [hg]; exact (lZ (by repeat (first | (with_reducible first | exact HB.out | apply lA | apply lN | apply lD | refine lS ?_ GE211.out | refine lS ?_ GE223.out | refine lS ?_ GE249.out) | exact HB.out))) : w.heap.size ≤ gb248))
               have n13_ := aaM ((by rw [hg]; exact Nat.ne_of_lt (bL (g := gb211) (by (with_reducible repeat (first | refine bN ?_ _ | refine bD ?_ | refine bA ?_ _)); exact BK211.out)) : gb211 ≠ gb248))
               have n14_ := aaM ((by rw [hg]; exact Nat.ne_of_gt (bL (g := gb211) (by (with_reducible repeat (first | refine bN ?_ _ | refine bD ?_ | refine bA ?_ _)); exact BK211.out)) : gb248 ≠ gb211))
               have n15_ := aaM ((by rw [hg]; exact Nat.ne_of_lt (bL (g := gb223) (by (with_reducible repeat (first | refine bN ?_ _ | refine bD ?_ | refine bA ?_ _)); exact BK223.out)) : gb223 ≠ gb248))
               have n16_ := aaM ((by rw [hg]; exact Nat.ne_of_gt (bL (g := gb223) (by (with_reducible repeat (first | refine bN ?_ _ | refine bD ?_ | refine bA ?_ _)); exact BK223.out)) : gb248 ≠ gb223))
               have n17_ := aaM ((by rw [hg]; exact Nat.ne_of_lt (bL (g := gb249) (by (with_reducible repeat (first | refine bN ?_ _ | refine bD ?_ | refine bA ?_ _)); exact BK249.out)) : gb249 ≠ gb248))
               have n18_ := aaM ((by rw [hg]; exact Nat.ne_of_gt (bL (g := gb249) (by (with_reducible repeat (first | refine bN ?_ _ | refine bD ?_ | refine bA ?_ _)); exact BK249.out)) : gb248 ≠ gb249))
               clear HO_11 HO_12 HO_224003 HO_224004 HO239 HO242 BK211 BK223 BK249 HB
               have HO_11 := n0_
               have HO_12 := n1_
               have HO_224003 := n2_
               have HO_224004 := n3_
               have HO239 := n4_
               have HO242 := n5_
               have BK211 := n6_
               have BK223 := n7_
               have BK249 := n8_
               have HB := n9_
               have BK248 := n10_
               have GW248 := n11_
               have GE248 := n12_
               have NB211_248 := n13_
               have NB248_211 := n14_
               have NB223_248 := n15_
               have NB248_223 := n16_
               have NB249_248 := n17_
               have NB248_249 := n18_
               clear n0_ n1_ n2_ n3_ n4_ n5_ n6_ n7_ n8_ n9_ n10_ n11_ n12_ n13_ n14_ n15_ n16_ n17_ n18_ hb hbox hg
               refine hK.out _ _ ⟨(bC BK223.out 0).trans rfl, (bC BK223.out 1).trans rfl, (bC BK223.out 2).trans rfl, (bC BK223.out 3).trans rfl, (bC BK223.out 4).trans rfl, (bC BK223.out 5).trans rfl, HS6_⟩ (fun hHeld => ?_)
               clear hK K
               refine norm_ (a' := ?_) ?_ ?_
               rotate_left
               ·show Act.put _ (some 15) _ = _
                simp only [Act.put, ssB, ssZ, ssS, i64_w, i32_w]
                rfl
               exact norm_ (by first | (simp only [putAll, Act.put, ssB, ssZ, ssS]; done) | (simp only [putAll, Act.put, ssB, ssZ, ssS]; rfl)) (hJ5_10_11 (v238, v241, gb248, gb249) _ ⟨hHeld, (by (with_reducible repeat (first | apply rrA | apply rrN | apply rrD)); exact HO239.out), (by (with_reducible repeat (first | apply rrA | apply rrN | apply rrD)); exact HO242.out), (by (with_reducible repeat (first | apply rrA | apply rrN | apply rrD)); exact HO_11.out), (by (with_reducible repeat (first | apply rrA | apply rrN | apply rrD)); exact HO_12.out), (by (with_reducible repeat (first | apply rrA | apply rrN | apply rrD)); exact HO_224003.out), (by (with_reducible repeat (first | apply rrA | apply rrN | apply rrD)); exact HO_224004.out), (by (with_reducible repeat (first | refine bN ?_ _ | refine bD ?_ | refine bA ?_ _)); exact BK211.out), (by (with_reducible repeat (first | refine bN ?_ _ | refine bD ?_ | refine bA ?_ _)); exact BK223.out), (by (with_reducible repeat (first | refine bN ?_ _ | refine bD ?_ | refine bA ?_ _)); exact BK248.out), (by (with_reducible repeat (first | refine bN ?_ _ | refine bD ?_ | refine bA ?_ _)); exact BK249.out), GW248.out, GE248.out, NB211_248.out, NB248_211.out, NB223_248.out, NB248_223.out, NB249_248.out, NB248_249.out, GW249.out, GE249.out, NB211_249.out, NB249_211.out, NB223_249.out, NB249_223.out, (by repeat (first | (with_reducible first | exact HB.out | apply lA | apply lN | apply lD | refine lS ?_ GE211.out | refine lS ?_ GE223.out | refine lS ?_ GE249.out | refine lS ?_ GE248.out) | exact HB.out))⟩)
             ·skip
              rintro ⟨v238, v241, gb248⟩ w53 ⟨hS_, h0_, h1_, h2_, h3_, h4_, h5_, h6_, h7_, h8_, h9_, h10_, h11_, h12_, h13_, h14_, h15_⟩
              have n0_ : Aside0 (Kd.R (Kd.int .i64) 3 w53 w.heap.size (fun k_ => some k_ ≠ (.slice (some ad233) t227.length co36 : Value).ownBlock ∧ some k_ ≠ (.slice Ao33 x224003_1.length co33 : Value).ownBlock) v238 t237) := ⟨h0_⟩
              have n1_ : Aside0 (Kd.R Kd.bool 4 w53 w.heap.size (fun k_ => some k_ ≠ (.slice Ao34 x224004_1.length co34 : Value).ownBlock) v241 t240) := ⟨h1_⟩
              have n2_ : Aside0 (Kd.R k52 52 w53 w.heap.size (fun _ => True) (.slice Ao37 x11_1.length co37) x11_1) := ⟨h2_⟩
              have n3_ : Aside0 (Kd.R (Kd.int .i64) 3 w53 w.heap.size (fun k_ => some k_ ≠ (v238 : Value).ownBlock ∧ some k_ ≠ (.slice Ao33 x224003_1.length co33 : Value).ownBlock) (.slice (some ad233) t227.length co36) t227) := ⟨h3_⟩
              have n4_ : Aside0 (Kd.R (Kd.int .i64) 3 w53 w.heap.size (fun k_ => some k_ ≠ (v238 : Value).ownBlock ∧ some k_ ≠ (.slice (some ad233) t227.length co36 : Value).ownBlock) (.slice Ao33 x224003_1.length co33) x224003_1) := ⟨h4_⟩
              have n5_ : Aside0 (Kd.R Kd.bool 4 w53 w.heap.size (fun k_ => some k_ ≠ (v241 : Value).ownBlock) (.slice Ao34 x224004_1.length co34) x224004_1) := ⟨h5_⟩
              have n6_ : Aside0 (w53.heap[gb211]? = some (.cells #[.int .i64 x212000_1, .int .i64 x212001_1, .int .i64 x212002_1, .slice none 0 0, .slice none 0 0, .bool x212005_1] 42 (0, 0))) := ⟨h6_⟩
              have n7_ : Aside0 (w53.heap[gb223]? = some (.cells #[.int .i64 x224000_1, .int .i64 x224001_1, .int .i64 x224002_1, .slice Ao33 x224003_1.length co33, .slice Ao34 x224004_1.length co34, .bool x224005_1] 42 (0, 0))) := ⟨h7_⟩
              have n8_ : Aside0 (w53.heap[gb248]? = some (.cells #[.int .i64 0, .int .i64 0, .int .i64 0, .slice none 0 0, .slice none 0 0, .bool false] 42 (0, 0))) := ⟨h8_⟩
              have n9_ : Aside0 (w.heap.size ≤ gb248) := ⟨h9_⟩
              have n10_ : Aside0 (w.heap.size ≤ gb248) := ⟨h10_⟩
              have n11_ : Aside0 (gb211 ≠ gb248) := ⟨h11_⟩
              have n12_ : Aside0 (gb248 ≠ gb211) := ⟨h12_⟩
              have n13_ : Aside0 (gb223 ≠ gb248) := ⟨h13_⟩
              have n14_ : Aside0 (gb248 ≠ gb223) := ⟨h14_⟩
              have n15_ : Aside0 (Below w.heap.size w w53) := ⟨h15_⟩
              clear HO_11 HO_12 HO_224003 HO_224004 BK211 BK223 HB h0_ h1_ h2_ h3_ h4_ h5_ h6_ h7_ h8_ h9_ h10_ h11_ h12_ h13_ h14_ h15_
              have HO239 := n0_
              have HO242 := n1_
              have HO_11 := n2_
              have HO_12 := n3_
              have HO_224003 := n4_
              have HO_224004 := n5_
              have BK211 := n6_
              have BK223 := n7_
              have BK248 := n8_
              have GW248 := n9_
              have GE248 := n10_
              have NB211_248 := n11_
              have NB248_211 := n12_
              have NB223_248 := n13_
              have NB248_223 := n14_
              have HB := n15_
              clear n0_ n1_ n2_ n3_ n4_ n5_ n6_ n7_ n8_ n9_ n10_ n11_ n12_ n13_ n14_ n15_
              have hHeld : w53.cell? ⟨gb223, 0, none⟩ = some (.int .i64 x224000_1) ∧ w53.cell? ⟨gb223, 1, none⟩ = some (.int .i64 x224001_1) ∧ w53.cell? ⟨gb223, 2, none⟩ = some (.int .i64 x224002_1) ∧ w53.cell? ⟨gb223, 3, none⟩ = some (.slice Ao33 x224003_1.length co33) ∧ w53.cell? ⟨gb223, 4, none⟩ = some (.slice Ao34 x224004_1.length co34) ∧ w53.cell? ⟨gb223, 5, none⟩ = some (.bool x224005_1) ∧ w53.cell? (ad233.add (x13_39).toNat) = some (.int .i64 (rd t227 x13_39)) := hS_
              refine norm_ (a' := ?_) ?_ ?_
              rotate_left
              ·simp only [putAll, Act.put, ssB, ssZ, ssS]
               rfl
              refine one_ (i := 11) (N := some 16) #[true, true, true, true, true, true, true, true, true, true, true, true, false, false, false] rfl rfl (one_of HT_.out (by kernel_rfl)) (by decide) (fun K hK => ?_)
              refine box_step ?hg (N := 16) ?hd (cs := #[.int .i64 0, .int .i64 0, .int .i64 0]) (t := 52) ?hr ?_; (case hd => rfl); (case hg => rfl); (case hr => first | (go_simp; done) | (go_simp; rfl))
              intro gb249 hg w54 hbox hb
              have HS6_ := (hb.cell (World.block_lt_of_cell? _ _ (hHeld.2.2.2.2.2.2))).trans (hHeld.2.2.2.2.2.2)
              have n0_ := aaM (rrB (Kd.R_elderB (by (with_reducible repeat (first | apply rrA | apply rrN | apply rrD)); exact HO_11.out) gb249 (Nat.le_of_eq hg.symm)) hb)
              have n1_ := aaM (rrB (by (with_reducible repeat (first | apply rrA | apply rrN | apply rrD)); exact HO_12.out) hb)
              have n2_ := aaM (rrB (by (with_reducible repeat (first | apply rrA | apply rrN | apply rrD)); exact HO_224003.out) hb)
              have n3_ := aaM (rrB (by (with_reducible repeat (first | apply rrA | apply rrN | apply rrD)); exact HO_224004.out) hb)
              have n4_ := aaM (rrB (by (with_reducible repeat (first | apply rrA | apply rrN | apply rrD)); exact HO239.out) hb)
              have n5_ := aaM (rrB (by (with_reducible repeat (first | apply rrA | apply rrN | apply rrD)); exact HO242.out) hb)
              have n6_ := aaM (bB (g := gb211) (o := .cells #[.int .i64 x212000_1, .int .i64 x212001_1, .int .i64 x212002_1, .slice none 0 0, .slice none 0 0, .bool x212005_1] 42 (0, 0)) (by (with_reducible repeat (first | refine bN ?_ _ | refine bD ?_ | refine bA ?_ _)); exact BK211.out) hb)
              have n7_ := aaM (bB (g := gb223) (o := .cells #[.int .i64 x224000_1, .int .i64 x224001_1, .int .i64 x224002_1, .slice Ao33 x224003_1.length co33, .slice Ao34 x224004_1.length co34, .bool x224005_1] 42 (0, 0)) (by (with_reducible repeat (first | refine bN ?_ _ | refine bD ?_ | refine bA ?_ _)); exact BK223.out) hb)
              have n8_ := aaM (bB (g := gb248) (o := .cells #[.int .i64 0, .int .i64 0, .int .i64 0, .slice none 0 0, .slice none 0 0, .bool false] 42 (0, 0)) (by (with_reducible repeat (first | refine bN ?_ _ | refine bD ?_ | refine bA ?_ _)); exact BK248.out) hb)
              have n9_ := aaM (lP (by repeat (first | (with_reducible first | exact HB.out | apply lA | apply lN | apply lD | refine lS ?_ GE211.out | refine lS ?_ GE223.out | refine lS ?_ GE248.out) | exact HB.out)) hb)
              have n10_ := aaM (hbox)
              have n11_ := aaM ((by rw [hg]; exact (lZ (by repeat (first | (with_reducible first | exact HB.out | apply lA | apply lN | apply lD | refine lS ?_ GE211.out | refine lS ?_ GE223.out | refine lS ?_ GE248.out) | exact HB.out))) : w.heap.size ≤ gb249))
              have n12_ := aaM ((by rw [hg]; exact (lZ (by repeat (first | (with_reducible first | exact HB.out | apply lA | apply lN | apply lD | refine lS ?_ GE211.out | refine lS ?_ GE223.out | refine lS ?_ GE248.out) | exact HB.out))) : w.heap.size ≤ gb249))
              have n13_ := aaM ((by rw [hg]; exact Nat.ne_of_lt (bL (g := gb211) (by (with_reducible repeat (first | refine bN ?_ _ | refine bD ?_ | refine bA ?_ _)); exact BK211.out)) : gb211 ≠ gb249))
              have n14_ := aaM ((by rw [hg]; exact Nat.ne_of_gt (bL (g := gb211) (by (with_reducible repeat (first | refine bN ?_ _ | refine bD ?_ | refine bA ?_ _)); exact BK211.out)) : gb249 ≠ gb211))
              have n15_ := aaM ((by rw [hg]; exact Nat.ne_of_lt (bL (g := gb223) (by (with_reducible repeat (first | refine bN ?_ _ | refine bD ?_ | refine bA ?_ _)); exact BK223.out)) : gb223 ≠ gb249))
              have n16_ := aaM ((by rw [hg]; exact Nat.ne_of_gt (bL (g := gb223) (by (with_reducible repeat (first | refine bN ?_ _ | refine bD ?_ | refine bA ?_ _)); exact BK223.out)) : gb249 ≠ gb223))
              have n17_ := aaM ((by rw [hg]; exact Nat.ne_of_lt (bL (g := gb248) (by (with_reducible repeat (first | refine bN ?_ _ | refine bD ?_ | refine bA ?_ _)); exact BK248.out)) : gb248 ≠ gb249))
              have n18_ := aaM ((by rw [hg]; exact Nat.ne_of_gt (bL (g := gb248) (by (with_reducible repeat (first | refine bN ?_ _ | refine bD ?_ | refine bA ?_ _)); exact BK248.out)) : gb249 ≠ gb248))
              clear HO_11 HO_12 HO_224003 HO_224004 HO239 HO242 BK211 BK223 BK248 HB
              have HO_11 := n0_
              have HO_12 := n1_
              have HO_224003 := n2_
              have HO_224004 := n3_
              have HO239 := n4_
              have HO242 := n5_
              have BK211 := n6_
              have BK223 := n7_
              have BK248 := n8_
              have HB := n9_
              have BK249 := n10_
              have GW249 := n11_
              have GE249 := n12_
              have NB211_249 := n13_
              have NB249_211 := n14_
              have NB223_249 := n15_
              have NB249_223 := n16_
              have NB248_249 := n17_
              have NB249_248 := n18_
              clear n0_ n1_ n2_ n3_ n4_ n5_ n6_ n7_ n8_ n9_ n10_ n11_ n12_ n13_ n14_ n15_ n16_ n17_ n18_ hb hbox hg
              refine hK.out _ _ ⟨(bC BK223.out 0).trans rfl, (bC BK223.out 1).trans rfl, (bC BK223.out 2).trans rfl, (bC BK223.out 3).trans rfl, (bC BK223.out 4).trans rfl, (bC BK223.out 5).trans rfl, HS6_⟩ (fun hHeld => ?_)
              clear hK K
              refine norm_ (a' := ?_) ?_ ?_
              rotate_left
              ·show Act.put _ (some 16) _ = _
               simp only [Act.put, ssB, ssZ, ssS, i64_w, i32_w]
               rfl
              exact norm_ (by first | (simp only [putAll, Act.put, ssB, ssZ, ssS]; done) | (simp only [putAll, Act.put, ssB, ssZ, ssS]; rfl)) (hJ5_10_11 (v238, v241, gb248, gb249) _ ⟨hHeld, (by (with_reducible repeat (first | apply rrA | apply rrN | apply rrD)); exact HO239.out), (by (with_reducible repeat (first | apply rrA | apply rrN | apply rrD)); exact HO242.out), (by (with_reducible repeat (first | apply rrA | apply rrN | apply rrD)); exact Kd.R_mono HO_11.out (fun _ hk => hk.2)), (by (with_reducible repeat (first | apply rrA | apply rrN | apply rrD)); exact HO_12.out), (by (with_reducible repeat (first | apply rrA | apply rrN | apply rrD)); exact HO_224003.out), (by (with_reducible repeat (first | apply rrA | apply rrN | apply rrD)); exact HO_224004.out), (by (with_reducible repeat (first | refine bN ?_ _ | refine bD ?_ | refine bA ?_ _)); exact BK211.out), (by (with_reducible repeat (first | refine bN ?_ _ | refine bD ?_ | refine bA ?_ _)); exact BK223.out), (by (with_reducible repeat (first | refine bN ?_ _ | refine bD ?_ | refine bA ?_ _)); exact BK248.out), (by (with_reducible repeat (first | refine bN ?_ _ | refine bD ?_ | refine bA ?_ _)); exact BK249.out), GW248.out, GE248.out, NB211_248.out, NB248_211.out, NB223_248.out, NB248_223.out, NB249_248.out, NB248_249.out, GW249.out, GE249.out, NB211_249.out, NB249_211.out, NB223_249.out, NB249_223.out, (by repeat (first | (with_reducible first | exact HB.out | apply lA | apply lN | apply lD | refine lS ?_ GE211.out | refine lS ?_ GE223.out | refine lS ?_ GE248.out | refine lS ?_ GE249.out) | exact HB.out))⟩)
            rintro ⟨v238, v241, gb248, gb249⟩ w54 ⟨hS_, h0_, h1_, h2_, h3_, h4_, h5_, h6_, h7_, h8_, h9_, h10_, h11_, h12_, h13_, h14_, h15_, h16_, h17_, h18_, h19_, h20_, h21_, h22_, h23_, h24_⟩
            have n0_ : Aside0 (Kd.R (Kd.int .i64) 3 w54 w.heap.size (fun k_ => some k_ ≠ (.slice (some ad233) t227.length co36 : Value).ownBlock ∧ some k_ ≠ (.slice Ao33 x224003_1.length co33 : Value).ownBlock) v238 t237) := ⟨h0_⟩
            have n1_ : Aside0 (Kd.R Kd.bool 4 w54 w.heap.size (fun k_ => some k_ ≠ (.slice Ao34 x224004_1.length co34 : Value).ownBlock) v241 t240) := ⟨h1_⟩
            have n2_ : Aside0 (Kd.R k52 52 w54 w.heap.size (fun k_ => k_ ≠ gb249) (.slice Ao37 x11_1.length co37) x11_1) := ⟨h2_⟩
            have n3_ : Aside0 (Kd.R (Kd.int .i64) 3 w54 w.heap.size (fun k_ => some k_ ≠ (v238 : Value).ownBlock ∧ some k_ ≠ (.slice Ao33 x224003_1.length co33 : Value).ownBlock) (.slice (some ad233) t227.length co36) t227) := ⟨h3_⟩
            have n4_ : Aside0 (Kd.R (Kd.int .i64) 3 w54 w.heap.size (fun k_ => some k_ ≠ (v238 : Value).ownBlock ∧ some k_ ≠ (.slice (some ad233) t227.length co36 : Value).ownBlock) (.slice Ao33 x224003_1.length co33) x224003_1) := ⟨h4_⟩
            have n5_ : Aside0 (Kd.R Kd.bool 4 w54 w.heap.size (fun k_ => some k_ ≠ (v241 : Value).ownBlock) (.slice Ao34 x224004_1.length co34) x224004_1) := ⟨h5_⟩
            have n6_ : Aside0 (w54.heap[gb211]? = some (.cells #[.int .i64 x212000_1, .int .i64 x212001_1, .int .i64 x212002_1, .slice none 0 0, .slice none 0 0, .bool x212005_1] 42 (0, 0))) := ⟨h6_⟩
            have n7_ : Aside0 (w54.heap[gb223]? = some (.cells #[.int .i64 x224000_1, .int .i64 x224001_1, .int .i64 x224002_1, .slice Ao33 x224003_1.length co33, .slice Ao34 x224004_1.length co34, .bool x224005_1] 42 (0, 0))) := ⟨h7_⟩
            have n8_ : Aside0 (w54.heap[gb248]? = some (.cells #[.int .i64 0, .int .i64 0, .int .i64 0, .slice none 0 0, .slice none 0 0, .bool false] 42 (0, 0))) := ⟨h8_⟩
            have n9_ : Aside0 (w54.heap[gb249]? = some (.cells #[.int .i64 0, .int .i64 0, .int .i64 0] 52 (0, 0))) := ⟨h9_⟩
            have n10_ : Aside0 (w.heap.size ≤ gb248) := ⟨h10_⟩
            have n11_ : Aside0 (w.heap.size ≤ gb248) := ⟨h11_⟩
            have n12_ : Aside0 (gb211 ≠ gb248) := ⟨h12_⟩
            have n13_ : Aside0 (gb248 ≠ gb211) := ⟨h13_⟩
            have n14_ : Aside0 (gb223 ≠ gb248) := ⟨h14_⟩
            have n15_ : Aside0 (gb248 ≠ gb223) := ⟨h15_⟩
            have n16_ : Aside0 (gb249 ≠ gb248) := ⟨h16_⟩
            have n17_ : Aside0 (gb248 ≠ gb249) := ⟨h17_⟩
            have n18_ : Aside0 (w.heap.size ≤ gb249) := ⟨h18_⟩
            have n19_ : Aside0 (w.heap.size ≤ gb249) := ⟨h19_⟩
            have n20_ : Aside0 (gb211 ≠ gb249) := ⟨h20_⟩
            have n21_ : Aside0 (gb249 ≠ gb211) := ⟨h21_⟩
            have n22_ : Aside0 (gb223 ≠ gb249) := ⟨h22_⟩
            have n23_ : Aside0 (gb249 ≠ gb223) := ⟨h23_⟩
            have n24_ : Aside0 (Below w.heap.size w w54) := ⟨h24_⟩
            clear HO_11 HO_12 HO_224003 HO_224004 BK211 BK223 HB h0_ h1_ h2_ h3_ h4_ h5_ h6_ h7_ h8_ h9_ h10_ h11_ h12_ h13_ h14_ h15_ h16_ h17_ h18_ h19_ h20_ h21_ h22_ h23_ h24_
            have HO239 := n0_
            have HO242 := n1_
            have HO_11 := n2_
            have HO_12 := n3_
            have HO_224003 := n4_
            have HO_224004 := n5_
            have BK211 := n6_
            have BK223 := n7_
            have BK248 := n8_
            have BK249 := n9_
            have GW248 := n10_
            have GE248 := n11_
            have NB211_248 := n12_
            have NB248_211 := n13_
            have NB223_248 := n14_
            have NB248_223 := n15_
            have NB249_248 := n16_
            have NB248_249 := n17_
            have GW249 := n18_
            have GE249 := n19_
            have NB211_249 := n20_
            have NB249_211 := n21_
            have NB223_249 := n22_
            have NB249_223 := n23_
            have HB := n24_
            clear n0_ n1_ n2_ n3_ n4_ n5_ n6_ n7_ n8_ n9_ n10_ n11_ n12_ n13_ n14_ n15_ n16_ n17_ n18_ n19_ n20_ n21_ n22_ n23_ n24_
            have hHeld : w54.cell? ⟨gb223, 0, none⟩ = some (.int .i64 x224000_1) ∧ w54.cell? ⟨gb223, 1, none⟩ = some (.int .i64 x224001_1) ∧ w54.cell? ⟨gb223, 2, none⟩ = some (.int .i64 x224002_1) ∧ w54.cell? ⟨gb223, 3, none⟩ = some (.slice Ao33 x224003_1.length co33) ∧ w54.cell? ⟨gb223, 4, none⟩ = some (.slice Ao34 x224004_1.length co34) ∧ w54.cell? ⟨gb223, 5, none⟩ = some (.bool x224005_1) ∧ w54.cell? (ad233.add (x13_39).toNat) = some (.int .i64 (rd t227 x13_39)) := hS_
            obtain ⟨Ao58, co58, eo58⟩ := Kd.R_slice HO239.out
            (first | subst eo58 | (injection eo58 with f1_ f2_ f3_; have f4_ := f1_.symm; have f5_ := f3_.symm; clear f1_ f2_ f3_; subst f4_; subst f5_))
            obtain ⟨Ao60, co60, eo60⟩ := Kd.R_slice HO242.out
            (first | subst eo60 | (injection eo60 with f1_ f2_ f3_; have f4_ := f1_.symm; have f5_ := f3_.symm; clear f1_ f2_ f3_; subst f4_; subst f5_))
            refine norm_ (a' := ?_) ?_ ?_
            rotate_left
            ·simp only [putAll, Act.put, ssB, ssZ, ssS]
             rfl
            refine one_ (i := 12) (N := none) #[true, true, true, true, true, true, true, true, true, true, true, true, true, false, false] rfl rfl (one_of HT_.out (by kernel_rfl)) (by decide) (fun K hK => ?_)
            have hs55 : w54.cell? ⟨gb248, 0, none⟩ = some (.int .i64 0) := (bC BK248.out 0).trans rfl
            have hfs55 := bF BK248.out 0
            have hns55_0 := NB211_248.out
            have hns55_1 := NB223_248.out
            have hns55_3 := NB249_248.out
            have hms55_0 := NB248_211.out
            have hms55_1 := NB248_223.out
            have hms55_3 := NB248_249.out
            have hs56 : w54.cell? ⟨gb248, 1, none⟩ = some (.int .i64 0) := (bC BK248.out 1).trans rfl
            have hfs56 := bF BK248.out 1
            have hns56_0 := NB211_248.out
            have hns56_1 := NB223_248.out
            have hns56_3 := NB249_248.out
            have hms56_0 := NB248_211.out
            have hms56_1 := NB248_223.out
            have hms56_3 := NB248_249.out
            have hs57 : w54.cell? ⟨gb248, 2, none⟩ = some (.int .i64 0) := (bC BK248.out 2).trans rfl
            have hfs57 := bF BK248.out 2
            have hns57_0 := NB211_248.out
            have hns57_1 := NB223_248.out
            have hns57_3 := NB249_248.out
            have hms57_0 := NB248_211.out
            have hms57_1 := NB248_223.out
            have hms57_3 := NB248_249.out
            have hs59 : w54.cell? ⟨gb248, 3, none⟩ = some (.slice none 0 0) := (bC BK248.out 3).trans rfl
            have hfs59 := bF BK248.out 3
            have hns59_0 := NB211_248.out
            have hns59_1 := NB223_248.out
            have hns59_3 := NB249_248.out
            have hms59_0 := NB248_211.out
            have hms59_1 := NB248_223.out
            have hms59_3 := NB248_249.out
            have hs61 : w54.cell? ⟨gb248, 4, none⟩ = some (.slice none 0 0) := (bC BK248.out 4).trans rfl
            have hfs61 := bF BK248.out 4
            have hns61_0 := NB211_248.out
            have hns61_1 := NB223_248.out
            have hns61_3 := NB249_248.out
            have hms61_0 := NB248_211.out
            have hms61_1 := NB248_223.out
            have hms61_3 := NB248_249.out
            have hs62 : w54.cell? ⟨gb248, 5, none⟩ = some (.bool false) := (bC BK248.out 5).trans rfl
            have hfs62 := bF BK248.out 5
            have hns62_0 := NB211_248.out
            have hns62_1 := NB223_248.out
            have hns62_3 := NB249_248.out
            have hms62_0 := NB248_211.out
            have hms62_1 := NB248_223.out
            have hms62_3 := NB248_249.out
            refine skip_ (w1 := ?_) (by rfl) rfl ?_ ?_
            rotate_left
            ·go_simp
             rfl
            refine hK.out _ _ ⟨((cell_far (p := ⟨gb248, _, none⟩) NB223_248.out _).trans (((cell_far (p := ⟨gb248, _, none⟩) NB223_248.out _).trans (((cell_far (p := ⟨gb248, _, none⟩) NB223_248.out _).trans (((cell_far (p := ⟨gb248, _, none⟩) NB223_248.out _).trans (((cell_far (p := ⟨gb248, _, none⟩) NB223_248.out _).trans (((cell_far (p := ⟨gb248, _, none⟩) NB223_248.out _).trans (hHeld.1)))))))))))), ((cell_far (p := ⟨gb248, _, none⟩) NB223_248.out _).trans (((cell_far (p := ⟨gb248, _, none⟩) NB223_248.out _).trans (((cell_far (p := ⟨gb248, _, none⟩) NB223_248.out _).trans (((cell_far (p := ⟨gb248, _, none⟩) NB223_248.out _).trans (((cell_far (p := ⟨gb248, _, none⟩) NB223_248.out _).trans (((cell_far (p := ⟨gb248, _, none⟩) NB223_248.out _).trans (hHeld.2.1)))))))))))), ((cell_far (p := ⟨gb248, _, none⟩) NB223_248.out _).trans (((cell_far (p := ⟨gb248, _, none⟩) NB223_248.out _).trans (((cell_far (p := ⟨gb248, _, none⟩) NB223_248.out _).trans (((cell_far (p := ⟨gb248, _, none⟩) NB223_248.out _).trans (((cell_far (p := ⟨gb248, _, none⟩) NB223_248.out _).trans (((cell_far (p := ⟨gb248, _, none⟩) NB223_248.out _).trans (hHeld.2.2.1)))))))))))), ((cell_far (p := ⟨gb248, _, none⟩) NB223_248.out _).trans (((cell_far (p := ⟨gb248, _, none⟩) NB223_248.out _).trans (((cell_far (p := ⟨gb248, _, none⟩) NB223_248.out _).trans (((cell_far (p := ⟨gb248, _, none⟩) NB223_248.out _).trans (((cell_far (p := ⟨gb248, _, none⟩) NB223_248.out _).trans (((cell_far (p := ⟨gb248, _, none⟩) NB223_248.out _).trans (hHeld.2.2.2.1)))))))))))), ((cell_far (p := ⟨gb248, _, none⟩) NB223_248.out _).trans (((cell_far (p := ⟨gb248, _, none⟩) NB223_248.out _).trans (((cell_far (p := ⟨gb248, _, none⟩) NB223_248.out _).trans (((cell_far (p := ⟨gb248, _, none⟩) NB223_248.out _).trans (((cell_far (p := ⟨gb248, _, none⟩) NB223_248.out _).trans (((cell_far (p := ⟨gb248, _, none⟩) NB223_248.out _).trans (hHeld.2.2.2.2.1)))))))))))), ((cell_far (p := ⟨gb248, _, none⟩) NB223_248.out _).trans (((cell_far (p := ⟨gb248, _, none⟩) NB223_248.out _).trans (((cell_far (p := ⟨gb248, _, none⟩) NB223_248.out _).trans (((cell_far (p := ⟨gb248, _, none⟩) NB223_248.out _).trans (((cell_far (p := ⟨gb248, _, none⟩) NB223_248.out _).trans (((cell_far (p := ⟨gb248, _, none⟩) NB223_248.out _).trans (hHeld.2.2.2.2.2.1)))))))))))), ((cell_far (p := ⟨gb248, _, none⟩) (by first | exact Kd.own_blk (Kd.R_ne HO_12.out BK248.out (by decide)) | (rw [add_block]; exact Kd.own_blk (Kd.R_ne HO_12.out BK248.out (by decide))) | (show (Addr.add _ _).block ≠ _; rw [add_block]; exact Kd.own_blk (Kd.R_ne HO_12.out BK248.out (by decide))) | (dsimp only; exact Kd.own_blk (Kd.R_ne HO_12.out BK248.out (by decide)))) _).trans (((cell_far (p := ⟨gb248, _, none⟩) (by first | exact Kd.own_blk (Kd.R_ne HO_12.out BK248.out (by decide)) | (rw [add_block]; exact Kd.own_blk (Kd.R_ne HO_12.out BK248.out (by decide))) | (show (Addr.add _ _).block ≠ _; rw [add_block]; exact Kd.own_blk (Kd.R_ne HO_12.out BK248.out (by decide))) | (dsimp only; exact Kd.own_blk (Kd.R_ne HO_12.out BK248.out (by decide)))) _).trans (((cell_far (p := ⟨gb248, _, none⟩) (by first | exact Kd.own_blk (Kd.R_ne HO_12.out BK248.out (by decide)) | (rw [add_block]; exact Kd.own_blk (Kd.R_ne HO_12.out BK248.out (by decide))) | (show (Addr.add _ _).block ≠ _; rw [add_block]; exact Kd.own_blk (Kd.R_ne HO_12.out BK248.out (by decide))) | (dsimp only; exact Kd.own_blk (Kd.R_ne HO_12.out BK248.out (by decide)))) _).trans (((cell_far (p := ⟨gb248, _, none⟩) (by first | exact Kd.own_blk (Kd.R_ne HO_12.out BK248.out (by decide)) | (rw [add_block]; exact Kd.own_blk (Kd.R_ne HO_12.out BK248.out (by decide))) | (show (Addr.add _ _).block ≠ _; rw [add_block]; exact Kd.own_blk (Kd.R_ne HO_12.out BK248.out (by decide))) | (dsimp only; exact Kd.own_blk (Kd.R_ne HO_12.out BK248.out (by decide)))) _).trans (((cell_far (p := ⟨gb248, _, none⟩) (by first | exact Kd.own_blk (Kd.R_ne HO_12.out BK248.out (by decide)) | (rw [add_block]; exact Kd.own_blk (Kd.R_ne HO_12.out BK248.out (by decide))) | (show (Addr.add _ _).block ≠ _; rw [add_block]; exact Kd.own_blk (Kd.R_ne HO_12.out BK248.out (by decide))) | (dsimp only; exact Kd.own_blk (Kd.R_ne HO_12.out BK248.out (by decide)))) _).trans (((cell_far (p := ⟨gb248, _, none⟩) (by first | exact Kd.own_blk (Kd.R_ne HO_12.out BK248.out (by decide)) | (rw [add_block]; exact Kd.own_blk (Kd.R_ne HO_12.out BK248.out (by decide))) | (show (Addr.add _ _).block ≠ _; rw [add_block]; exact Kd.own_blk (Kd.R_ne HO_12.out BK248.out (by decide))) | (dsimp only; exact Kd.own_blk (Kd.R_ne HO_12.out BK248.out (by decide)))) _).trans (hHeld.2.2.2.2.2.2))))))))))))⟩ (fun hHeld => ?_)
            clear hK K
            refine one_ (i := 13) (N := none) #[true, true, true, true, true, true, true, true, true, true, true, true, true, true, false] rfl rfl (one_of HT_.out (by kernel_rfl)) (by decide) (fun K hK => ?_)
            have hs63 : w54.cell? ⟨gb249, 0, none⟩ = some (.int .i64 0) := (bC BK249.out 0).trans rfl
            have hfs63 := bF BK249.out 0
            have hns63_0 := NB211_249.out
            have hns63_1 := NB223_249.out
            have hns63_2 := NB248_249.out
            have hms63_0 := NB249_211.out
            have hms63_1 := NB249_223.out
            have hms63_2 := NB249_248.out
            have hs64 : w54.cell? ⟨gb249, 1, none⟩ = some (.int .i64 0) := (bC BK249.out 1).trans rfl
            have hfs64 := bF BK249.out 1
            have hns64_0 := NB211_249.out
            have hns64_1 := NB223_249.out
            have hns64_2 := NB248_249.out
            have hms64_0 := NB249_211.out
            have hms64_1 := NB249_223.out
            have hms64_2 := NB249_248.out
            have hs65 : w54.cell? ⟨gb249, 2, none⟩ = some (.int .i64 0) := (bC BK249.out 2).trans rfl
            have hfs65 := bF BK249.out 2
            have hns65_0 := NB211_249.out
            have hns65_1 := NB223_249.out
            have hns65_2 := NB248_249.out
            have hms65_0 := NB249_211.out
            have hms65_1 := NB249_223.out
            have hms65_2 := NB249_248.out
            refine skip_ (w1 := ?_) (by rfl) rfl ?_ ?_
            rotate_left
            ·go_simp
             rfl
            refine hK.out _ _ ⟨((cell_far (p := ⟨gb249, _, none⟩) NB223_249.out _).trans (((cell_far (p := ⟨gb249, _, none⟩) NB223_249.out _).trans (((cell_far (p := ⟨gb249, _, none⟩) NB223_249.out _).trans (hHeld.1)))))), ((cell_far (p := ⟨gb249, _, none⟩) NB223_249.out _).trans (((cell_far (p := ⟨gb249, _, none⟩) NB223_249.out _).trans (((cell_far (p := ⟨gb249, _, none⟩) NB223_249.out _).trans (hHeld.2.1)))))), ((cell_far (p := ⟨gb249, _, none⟩) NB223_249.out _).trans (((cell_far (p := ⟨gb249, _, none⟩) NB223_249.out _).trans (((cell_far (p := ⟨gb249, _, none⟩) NB223_249.out _).trans (hHeld.2.2.1)))))), ((cell_far (p := ⟨gb249, _, none⟩) NB223_249.out _).trans (((cell_far (p := ⟨gb249, _, none⟩) NB223_249.out _).trans (((cell_far (p := ⟨gb249, _, none⟩) NB223_249.out _).trans (hHeld.2.2.2.1)))))), ((cell_far (p := ⟨gb249, _, none⟩) NB223_249.out _).trans (((cell_far (p := ⟨gb249, _, none⟩) NB223_249.out _).trans (((cell_far (p := ⟨gb249, _, none⟩) NB223_249.out _).trans (hHeld.2.2.2.2.1)))))), ((cell_far (p := ⟨gb249, _, none⟩) NB223_249.out _).trans (((cell_far (p := ⟨gb249, _, none⟩) NB223_249.out _).trans (((cell_far (p := ⟨gb249, _, none⟩) NB223_249.out _).trans (hHeld.2.2.2.2.2.1)))))), ((cell_far (p := ⟨gb249, _, none⟩) (by first | exact Kd.own_blk (Kd.R_ne HO_12.out BK249.out (by decide)) | (rw [add_block]; exact Kd.own_blk (Kd.R_ne HO_12.out BK249.out (by decide))) | (show (Addr.add _ _).block ≠ _; rw [add_block]; exact Kd.own_blk (Kd.R_ne HO_12.out BK249.out (by decide))) | (dsimp only; exact Kd.own_blk (Kd.R_ne HO_12.out BK249.out (by decide)))) _).trans (((cell_far (p := ⟨gb249, _, none⟩) (by first | exact Kd.own_blk (Kd.R_ne HO_12.out BK249.out (by decide)) | (rw [add_block]; exact Kd.own_blk (Kd.R_ne HO_12.out BK249.out (by decide))) | (show (Addr.add _ _).block ≠ _; rw [add_block]; exact Kd.own_blk (Kd.R_ne HO_12.out BK249.out (by decide))) | (dsimp only; exact Kd.own_blk (Kd.R_ne HO_12.out BK249.out (by decide)))) _).trans (((cell_far (p := ⟨gb249, _, none⟩) (by first | exact Kd.own_blk (Kd.R_ne HO_12.out BK249.out (by decide)) | (rw [add_block]; exact Kd.own_blk (Kd.R_ne HO_12.out BK249.out (by decide))) | (show (Addr.add _ _).block ≠ _; rw [add_block]; exact Kd.own_blk (Kd.R_ne HO_12.out BK249.out (by decide))) | (dsimp only; exact Kd.own_blk (Kd.R_ne HO_12.out BK249.out (by decide)))) _).trans (hHeld.2.2.2.2.2.2))))))⟩ (fun hHeld => ?_)
            clear hK K
            refine pure_ (i := 14) (N := some 17) (v := ?_) (a' := ?_) #[true, true, true, true, true, true, true, true, true, true, true, true, true, true, true] rfl rfl (any_of HT_.out (by kernel_rfl)) (fun _ _ _ h => h) (Or.inl ⟨by rfl, ?_⟩) ?_ ?_
            rotate_left
            ·intro w'
             go_simp
             with_reducible rfl
            rotate_left
            ·simp only [Act.put, ssB, ssZ, ssS, i64_w, i32_w]
             rfl
            refine done_ (done_of HT_.out (by kernel_rfl)) ?_
            have HO_11 : Aside0 (Kd.R k52 52 w54 w.heap.size (fun k_ => k_ ≠ gb249) (.slice Ao37 x11_1.length co37) x11_1) := ⟨Kd.R_mono HO_11.out (fun _ hk => hk)⟩
            have HO239 : Aside0 (Kd.R (Kd.int .i64) 3 w54 w.heap.size (fun _ => True) (.slice Ao58 t237.length co58) t237) := ⟨Kd.R_mono HO239.out (fun _ _ => trivial)⟩
            have HO242 : Aside0 (Kd.R Kd.bool 4 w54 w.heap.size (fun _ => True) (.slice Ao60 t240.length co60) t240) := ⟨Kd.R_mono HO242.out (fun _ _ => trivial)⟩
            have BKb211 := BK211
            have GEb211 := GE211
            have BKb223 := BK223
            have GEb223 := GE223
            have BKb248 := BK248
            have GEb248 := GE248
            have BKb249 := BK249
            have GEb249 := GE249
            have NBb211_b223 := NB211_223
            have NBb211_b248 := NB211_248
            have NBb211_b249 := NB211_249
            have NBb223_b211 := NB223_211
            have NBb223_b248 := NB223_248
            have NBb223_b249 := NB223_249
            have NBb248_b211 := NB248_211
            have NBb248_b223 := NB248_223
            have NBb248_b249 := NB248_249
            have NBb249_b211 := NB249_211
            have NBb249_b223 := NB249_223
            have NBb249_b248 := NB249_248
            have nb211_223 := NB211_223.out
            have nb211_248 := NB211_248.out
            have nb211_249 := NB211_249.out
            have nb223_211 := NB223_211.out
            have nb223_248 := NB223_248.out
            have nb223_249 := NB223_249.out
            have nb248_211 := NB248_211.out
            have nb248_223 := NB248_223.out
            have nb248_249 := NB248_249.out
            have nb249_211 := NB249_211.out
            have nb249_223 := NB249_223.out
            have nb249_248 := NB249_248.out
            clear hHeld BK211 BK223 BK248 BK249
            obtain ⟨w501, hw_⟩ : ∃ w_ : World, w_ = ((((((w54.setCell ⟨gb248, 0, none⟩ (.int .i64 t234)).setCell ⟨gb248, 1, none⟩ (.int .i64 t235)).setCell ⟨gb248, 2, none⟩ (.int .i64 t236)).setCell ⟨gb248, 3, none⟩ ((.slice Ao58 t237.length co58))).setCell ⟨gb248, 4, none⟩ ((.slice Ao60 t240.length co60))).setCell ⟨gb248, 5, none⟩ (.bool t243)) := ⟨_, rfl⟩
            rw [← hw_]
            have nb211_ : Aside0 (w501.heap[gb211]? = some (.cells #[.int .i64 x212000_1, .int .i64 x212001_1, .int .i64 x212002_1, .slice none 0 0, .slice none 0 0, .bool x212005_1] 42 (0, 0))) := ⟨by rw [hw_]; refine blk_far ?_ NBb211_b248.out _; refine blk_far ?_ NBb211_b248.out _; refine blk_far ?_ NBb211_b248.out _; refine blk_far ?_ NBb211_b248.out _; refine blk_far ?_ NBb211_b248.out _; refine blk_far ?_ NBb211_b248.out _; exact (by (with_reducible repeat (first | refine bN ?_ _ | refine bD ?_ | refine bA ?_ _)); exact BKb211.out)⟩
            have nb223_ : Aside0 (w501.heap[gb223]? = some (.cells #[.int .i64 x224000_1, .int .i64 x224001_1, .int .i64 x224002_1, .slice Ao33 x224003_1.length co33, .slice Ao34 x224004_1.length co34, .bool x224005_1] 42 (0, 0))) := ⟨by rw [hw_]; refine blk_far ?_ NBb223_b248.out _; refine blk_far ?_ NBb223_b248.out _; refine blk_far ?_ NBb223_b248.out _; refine blk_far ?_ NBb223_b248.out _; refine blk_far ?_ NBb223_b248.out _; refine blk_far ?_ NBb223_b248.out _; exact (by (with_reducible repeat (first | refine bN ?_ _ | refine bD ?_ | refine bA ?_ _)); exact BKb223.out)⟩
            have nb249_ : Aside0 (w501.heap[gb249]? = some (.cells #[.int .i64 0, .int .i64 0, .int .i64 0] 52 (0, 0))) := ⟨by rw [hw_]; refine blk_far ?_ NBb249_b248.out _; refine blk_far ?_ NBb249_b248.out _; refine blk_far ?_ NBb249_b248.out _; refine blk_far ?_ NBb249_b248.out _; refine blk_far ?_ NBb249_b248.out _; refine blk_far ?_ NBb249_b248.out _; exact (by (with_reducible repeat (first | refine bN ?_ _ | refine bD ?_ | refine bA ?_ _)); exact BKb249.out)⟩
            have nb248_ : Aside0 (w501.heap[gb248]? = some (.cells #[.int .i64 t234, .int .i64 t235, .int .i64 t236, (.slice Ao58 t237.length co58), (.slice Ao60 t240.length co60), .bool t243] 42 (0, 0))) := ⟨by rw [hw_]; refine blk_put (cs := #[.int .i64 t234, .int .i64 t235, .int .i64 t236, (.slice Ao58 t237.length co58), (.slice Ao60 t240.length co60), .bool false]) ?_ 5 _ rfl; refine blk_put (cs := #[.int .i64 t234, .int .i64 t235, .int .i64 t236, (.slice Ao58 t237.length co58), .slice none 0 0, .bool false]) ?_ 4 _ rfl; refine blk_put (cs := #[.int .i64 t234, .int .i64 t235, .int .i64 t236, .slice none 0 0, .slice none 0 0, .bool false]) ?_ 3 _ rfl; refine blk_put (cs := #[.int .i64 t234, .int .i64 t235, .int .i64 0, .slice none 0 0, .slice none 0 0, .bool false]) ?_ 2 _ rfl; refine blk_put (cs := #[.int .i64 t234, .int .i64 0, .int .i64 0, .slice none 0 0, .slice none 0 0, .bool false]) ?_ 1 _ rfl; refine blk_put (cs := #[.int .i64 0, .int .i64 0, .int .i64 0, .slice none 0 0, .slice none 0 0, .bool false]) ?_ 0 _ rfl; exact (by (with_reducible repeat (first | refine bN ?_ _ | refine bD ?_ | refine bA ?_ _)); exact BKb248.out)⟩
            have m_11_ : Aside0 (Kd.R k52 52 w501 w.heap.size (fun k_ => k_ ≠ gb249) (.slice Ao37 x11_1.length co37) x11_1) := ⟨by rw [hw_]; exact row_far (w := w54) (by (with_reducible repeat (first | apply rrA | apply rrN | apply rrD)); exact HO_11.out) (by (with_reducible repeat (first | refine bN ?_ _ | refine bD ?_ | refine bA ?_ _)); exact BKb248.out) (by decide) _ (fun k_ hk_ => by refine (hhS _ _ _ k_ hk_).trans ?_; refine (hhS _ _ _ k_ hk_).trans ?_; refine (hhS _ _ _ k_ hk_).trans ?_; refine (hhS _ _ _ k_ hk_).trans ?_; refine (hhS _ _ _ k_ hk_).trans ?_; refine (hhS _ _ _ k_ hk_).trans ?_; exact rfl)⟩
            have m239_ : Aside0 (Kd.R (Kd.int .i64) 3 w501 w.heap.size (fun _ => True) (.slice Ao58 t237.length co58) t237) := ⟨by rw [hw_]; exact row_far (w := w54) (by (with_reducible repeat (first | apply rrA | apply rrN | apply rrD)); exact HO239.out) (by (with_reducible repeat (first | refine bN ?_ _ | refine bD ?_ | refine bA ?_ _)); exact BKb248.out) (by decide) _ (fun k_ hk_ => by refine (hhS _ _ _ k_ hk_).trans ?_; refine (hhS _ _ _ k_ hk_).trans ?_; refine (hhS _ _ _ k_ hk_).trans ?_; refine (hhS _ _ _ k_ hk_).trans ?_; refine (hhS _ _ _ k_ hk_).trans ?_; refine (hhS _ _ _ k_ hk_).trans ?_; exact rfl)⟩
            have m242_ : Aside0 (Kd.R Kd.bool 4 w501 w.heap.size (fun _ => True) (.slice Ao60 t240.length co60) t240) := ⟨by rw [hw_]; exact row_far (w := w54) (by (with_reducible repeat (first | apply rrA | apply rrN | apply rrD)); exact HO242.out) (by (with_reducible repeat (first | refine bN ?_ _ | refine bD ?_ | refine bA ?_ _)); exact BKb248.out) (by decide) _ (fun k_ hk_ => by refine (hhS _ _ _ k_ hk_).trans ?_; refine (hhS _ _ _ k_ hk_).trans ?_; refine (hhS _ _ _ k_ hk_).trans ?_; refine (hhS _ _ _ k_ hk_).trans ?_; refine (hhS _ _ _ k_ hk_).trans ?_; refine (hhS _ _ _ k_ hk_).trans ?_; exact rfl)⟩
            have hb_ : Aside0 (Below w.heap.size w w501) := ⟨by rw [hw_]; refine lS ?_ GEb248.out; refine lS ?_ GEb248.out; refine lS ?_ GEb248.out; refine lS ?_ GEb248.out; refine lS ?_ GEb248.out; refine lS ?_ GEb248.out; exact (by repeat (first | (with_reducible first | exact HB.out | apply lA | apply lN | apply lD | refine lS ?_ GEb211.out | refine lS ?_ GEb223.out | refine lS ?_ GEb248.out | refine lS ?_ GEb249.out) | exact HB.out))⟩
            clear BKb211 BKb223 BKb248 BKb249 HO_11 HO239 HO242 HB
            have BKb211 := nb211_
            have BKb223 := nb223_
            have BKb248 := nb248_
            have BKb249 := nb249_
            have HO_11 := m_11_
            have HO239 := m239_
            have HO242 := m242_
            have HB := hb_
            clear nb211_ nb223_ nb248_ nb249_ m_11_ m239_ m242_ hb_ hw_
            obtain ⟨w502, hw_⟩ : ∃ w_ : World, w_ = (((w501.setCell ⟨gb249, 0, none⟩ (.int .i64 t244)).setCell ⟨gb249, 1, none⟩ (.int .i64 t245)).setCell ⟨gb249, 2, none⟩ (.int .i64 t246)) := ⟨_, rfl⟩
            rw [← hw_]
            have nb211_ : Aside0 (w502.heap[gb211]? = some (.cells #[.int .i64 x212000_1, .int .i64 x212001_1, .int .i64 x212002_1, .slice none 0 0, .slice none 0 0, .bool x212005_1] 42 (0, 0))) := ⟨by rw [hw_]; refine blk_far ?_ NBb211_b249.out _; refine blk_far ?_ NBb211_b249.out _; refine blk_far ?_ NBb211_b249.out _; exact (by (with_reducible repeat (first | refine bN ?_ _ | refine bD ?_ | refine bA ?_ _)); exact BKb211.out)⟩
            have nb223_ : Aside0 (w502.heap[gb223]? = some (.cells #[.int .i64 x224000_1, .int .i64 x224001_1, .int .i64 x224002_1, .slice Ao33 x224003_1.length co33, .slice Ao34 x224004_1.length co34, .bool x224005_1] 42 (0, 0))) := ⟨by rw [hw_]; refine blk_far ?_ NBb223_b249.out _; refine blk_far ?_ NBb223_b249.out _; refine blk_far ?_ NBb223_b249.out _; exact (by (with_reducible repeat (first | refine bN ?_ _ | refine bD ?_ | refine bA ?_ _)); exact BKb223.out)⟩
            have nb248_ : Aside0 (w502.heap[gb248]? = some (.cells #[.int .i64 t234, .int .i64 t235, .int .i64 t236, (.slice Ao58 t237.length co58), (.slice Ao60 t240.length co60), .bool t243] 42 (0, 0))) := ⟨by rw [hw_]; refine blk_far ?_ NBb248_b249.out _; refine blk_far ?_ NBb248_b249.out _; refine blk_far ?_ NBb248_b249.out _; exact (by (with_reducible repeat (first | refine bN ?_ _ | refine bD ?_ | refine bA ?_ _)); exact BKb248.out)⟩
            have nb249_ : Aside0 (w502.heap[gb249]? = some (.cells #[.int .i64 t244, .int .i64 t245, .int .i64 t246] 52 (0, 0))) := ⟨by rw [hw_]; refine blk_put (cs := #[.int .i64 t244, .int .i64 t245, .int .i64 0]) ?_ 2 _ rfl; refine blk_put (cs := #[.int .i64 t244, .int .i64 0, .int .i64 0]) ?_ 1 _ rfl; refine blk_put (cs := #[.int .i64 0, .int .i64 0, .int .i64 0]) ?_ 0 _ rfl; exact (by (with_reducible repeat (first | refine bN ?_ _ | refine bD ?_ | refine bA ?_ _)); exact BKb249.out)⟩
            have m_11_ : Aside0 (Kd.R k52 52 w502 w.heap.size (fun _ => True) (.slice Ao37 x11_1.length co37) x11_1) := ⟨by rw [hw_]; exact Kd.R_mono (rrF (p := ⟨gb249, 2, none⟩) (rrF (p := ⟨gb249, 1, none⟩) (rrF (p := ⟨gb249, 0, none⟩) HO_11.out (fun _ hk => hk) (.int .i64 t244)) (fun _ hk => hk) (.int .i64 t245)) (fun _ hk => hk) (.int .i64 t246)) (fun _ _ => trivial)⟩
            have m239_ : Aside0 (Kd.R (Kd.int .i64) 3 w502 w.heap.size (fun _ => True) (.slice Ao58 t237.length co58) t237) := ⟨by rw [hw_]; exact row_far (w := w501) (by (with_reducible repeat (first | apply rrA | apply rrN | apply rrD)); exact HO239.out) (by (with_reducible repeat (first | refine bN ?_ _ | refine bD ?_ | refine bA ?_ _)); exact BKb249.out) (by decide) _ (fun k_ hk_ => by refine (hhS _ _ _ k_ hk_).trans ?_; refine (hhS _ _ _ k_ hk_).trans ?_; refine (hhS _ _ _ k_ hk_).trans ?_; exact rfl)⟩
            have m242_ : Aside0 (Kd.R Kd.bool 4 w502 w.heap.size (fun _ => True) (.slice Ao60 t240.length co60) t240) := ⟨by rw [hw_]; exact row_far (w := w501) (by (with_reducible repeat (first | apply rrA | apply rrN | apply rrD)); exact HO242.out) (by (with_reducible repeat (first | refine bN ?_ _ | refine bD ?_ | refine bA ?_ _)); exact BKb249.out) (by decide) _ (fun k_ hk_ => by refine (hhS _ _ _ k_ hk_).trans ?_; refine (hhS _ _ _ k_ hk_).trans ?_; refine (hhS _ _ _ k_ hk_).trans ?_; exact rfl)⟩
            have hb_ : Aside0 (Below w.heap.size w w502) := ⟨by rw [hw_]; refine lS ?_ GEb249.out; refine lS ?_ GEb249.out; refine lS ?_ GEb249.out; exact (by repeat (first | (with_reducible first | exact HB.out | apply lA | apply lN | apply lD | refine lS ?_ GEb211.out | refine lS ?_ GEb223.out | refine lS ?_ GEb248.out | refine lS ?_ GEb249.out) | exact HB.out))⟩
            clear BKb211 BKb223 BKb248 BKb249 HO_11 HO239 HO242 HB
            have BKb211 := nb211_
            have BKb223 := nb223_
            have BKb248 := nb248_
            have BKb249 := nb249_
            have HO_11 := m_11_
            have HO239 := m239_
            have HO242 := m242_
            have HB := hb_
            clear nb211_ nb223_ nb248_ nb249_ m_11_ m239_ m242_ hb_ hw_
            have hz503 : w502.cell? ⟨gb211, 0, none⟩ = some (.int .i64 x212000_1) := (bC BKb211.out 0).trans rfl
            have fhz503 := bF BKb211.out 0
            have hz504 : w502.cell? ⟨gb211, 1, none⟩ = some (.int .i64 x212001_1) := (bC BKb211.out 1).trans rfl
            have fhz504 := bF BKb211.out 1
            have hz505 : w502.cell? ⟨gb211, 2, none⟩ = some (.int .i64 x212002_1) := (bC BKb211.out 2).trans rfl
            have fhz505 := bF BKb211.out 2
            have hz506 : w502.cell? ⟨gb211, 3, none⟩ = some (.slice none 0 0) := (bC BKb211.out 3).trans rfl
            have fhz506 := bF BKb211.out 3
            have hz507 : w502.cell? ⟨gb211, 4, none⟩ = some (.slice none 0 0) := (bC BKb211.out 4).trans rfl
            have fhz507 := bF BKb211.out 4
            have hz508 : w502.cell? ⟨gb211, 5, none⟩ = some (.bool x212005_1) := (bC BKb211.out 5).trans rfl
            have fhz508 := bF BKb211.out 5
            have hz509 : w502.cell? ⟨gb223, 0, none⟩ = some (.int .i64 x224000_1) := (bC BKb223.out 0).trans rfl
            have fhz509 := bF BKb223.out 0
            have hz510 : w502.cell? ⟨gb223, 1, none⟩ = some (.int .i64 x224001_1) := (bC BKb223.out 1).trans rfl
            have fhz510 := bF BKb223.out 1
            have hz511 : w502.cell? ⟨gb223, 2, none⟩ = some (.int .i64 x224002_1) := (bC BKb223.out 2).trans rfl
            have fhz511 := bF BKb223.out 2
            have hz512 : w502.cell? ⟨gb223, 3, none⟩ = some (.slice Ao33 x224003_1.length co33) := (bC BKb223.out 3).trans rfl
            have fhz512 := bF BKb223.out 3
            have hz513 : w502.cell? ⟨gb223, 4, none⟩ = some (.slice Ao34 x224004_1.length co34) := (bC BKb223.out 4).trans rfl
            have fhz513 := bF BKb223.out 4
            have hz514 : w502.cell? ⟨gb223, 5, none⟩ = some (.bool x224005_1) := (bC BKb223.out 5).trans rfl
            have fhz514 := bF BKb223.out 5
            have hz515 : w502.cell? ⟨gb248, 0, none⟩ = some (.int .i64 t234) := (bC BKb248.out 0).trans rfl
            have fhz515 := bF BKb248.out 0
            have hz516 : w502.cell? ⟨gb248, 1, none⟩ = some (.int .i64 t235) := (bC BKb248.out 1).trans rfl
            have fhz516 := bF BKb248.out 1
            have hz517 : w502.cell? ⟨gb248, 2, none⟩ = some (.int .i64 t236) := (bC BKb248.out 2).trans rfl
            have fhz517 := bF BKb248.out 2
            have hz518 : w502.cell? ⟨gb248, 3, none⟩ = some ((.slice Ao58 t237.length co58)) := (bC BKb248.out 3).trans rfl
            have fhz518 := bF BKb248.out 3
            have hz519 : w502.cell? ⟨gb248, 4, none⟩ = some ((.slice Ao60 t240.length co60)) := (bC BKb248.out 4).trans rfl
            have fhz519 := bF BKb248.out 4
            have hz520 : w502.cell? ⟨gb248, 5, none⟩ = some (.bool t243) := (bC BKb248.out 5).trans rfl
            have fhz520 := bF BKb248.out 5
            have hz521 : w502.cell? ⟨gb249, 0, none⟩ = some (.int .i64 t244) := (bC BKb249.out 0).trans rfl
            have fhz521 := bF BKb249.out 0
            have hz522 : w502.cell? ⟨gb249, 1, none⟩ = some (.int .i64 t245) := (bC BKb249.out 1).trans rfl
            have fhz522 := bF BKb249.out 1
            have hz523 : w502.cell? ⟨gb249, 2, none⟩ = some (.int .i64 t246) := (bC BKb249.out 2).trans rfl
            have fhz523 := bF BKb249.out 2
            go_wp2_with (first | ((with_reducible refine gate_store (t := 42) (p := 9) rfl ?_); refine store_event (t := 42) (p := 9) (v := ?vow524) (w1 := ((((((w502.setCell ⟨gb223, 0, none⟩ (.int .i64 t234)).setCell ⟨gb223, 1, none⟩ (.int .i64 t235)).setCell ⟨gb223, 2, none⟩ (.int .i64 t236)).setCell ⟨gb223, 3, none⟩ ((.slice Ao58 t237.length co58))).setCell ⟨gb223, 4, none⟩ ((.slice Ao60 t240.length co60))).setCell ⟨gb223, 5, none⟩ (.bool t243))) ?hg ?ho ?hN ?hr ?_; (case ho => rfl); (case hg => rfl); (case hN => rfl); (case hr => first | (go_simp; done) | (go_simp; rfl)); intro w524 hw_; have nb211_ : Aside0 (w524.heap[gb211]? = some (.cells #[.int .i64 x212000_1, .int .i64 x212001_1, .int .i64 x212002_1, .slice none 0 0, .slice none 0 0, .bool x212005_1] 42 (0, 0))) := ⟨by rw [hw_]; refine blk_far ?_ NBb211_b223.out _; refine blk_far ?_ NBb211_b223.out _; refine blk_far ?_ NBb211_b223.out _; refine blk_far ?_ NBb211_b223.out _; refine blk_far ?_ NBb211_b223.out _; refine blk_far ?_ NBb211_b223.out _; exact (by (with_reducible repeat (first | refine bN ?_ _ | refine bD ?_ | refine bA ?_ _)); exact BKb211.out)⟩; have nb248_ : Aside0 (w524.heap[gb248]? = some (.cells #[.int .i64 t234, .int .i64 t235, .int .i64 t236, (.slice Ao58 t237.length co58), (.slice Ao60 t240.length co60), .bool t243] 42 (0, 0))) := ⟨by rw [hw_]; refine blk_far ?_ NBb248_b223.out _; refine blk_far ?_ NBb248_b223.out _; refine blk_far ?_ NBb248_b223.out _; refine blk_far ?_ NBb248_b223.out _; refine blk_far ?_ NBb248_b223.out _; refine blk_far ?_ NBb248_b223.out _; exact (by (with_reducible repeat (first | refine bN ?_ _ | refine bD ?_ | refine bA ?_ _)); exact BKb248.out)⟩; have nb249_ : Aside0 (w524.heap[gb249]? = some (.cells #[.int .i64 t244, .int .i64 t245, .int .i64 t246] 52 (0, 0))) := ⟨by rw [hw_]; refine blk_far ?_ NBb249_b223.out _; refine blk_far ?_ NBb249_b223.out _; refine blk_far ?_ NBb249_b223.out _; refine blk_far ?_ NBb249_b223.out _; refine blk_far ?_ NBb249_b223.out _; refine blk_far ?_ NBb249_b223.out _; exact (by (with_reducible repeat (first | refine bN ?_ _ | refine bD ?_ | refine bA ?_ _)); exact BKb249.out)⟩; have nb223_ : Aside0 (w524.heap[gb223]? = some (.cells #[.int .i64 t234, .int .i64 t235, .int .i64 t236, (.slice Ao58 t237.length co58), (.slice Ao60 t240.length co60), .bool t243] 42 (0, 0))) := ⟨by rw [hw_]; refine blk_put (cs := #[.int .i64 t234, .int .i64 t235, .int .i64 t236, (.slice Ao58 t237.length co58), (.slice Ao60 t240.length co60), .bool x224005_1]) ?_ 5 _ rfl; refine blk_put (cs := #[.int .i64 t234, .int .i64 t235, .int .i64 t236, (.slice Ao58 t237.length co58), .slice Ao34 x224004_1.length co34, .bool x224005_1]) ?_ 4 _ rfl; refine blk_put (cs := #[.int .i64 t234, .int .i64 t235, .int .i64 t236, .slice Ao33 x224003_1.length co33, .slice Ao34 x224004_1.length co34, .bool x224005_1]) ?_ 3 _ rfl; refine blk_put (cs := #[.int .i64 t234, .int .i64 t235, .int .i64 x224002_1, .slice Ao33 x224003_1.length co33, .slice Ao34 x224004_1.length co34, .bool x224005_1]) ?_ 2 _ rfl; refine blk_put (cs := #[.int .i64 t234, .int .i64 x224001_1, .int .i64 x224002_1, .slice Ao33 x224003_1.length co33, .slice Ao34 x224004_1.length co34, .bool x224005_1]) ?_ 1 _ rfl; refine blk_put (cs := #[.int .i64 x224000_1, .int .i64 x224001_1, .int .i64 x224002_1, .slice Ao33 x224003_1.length co33, .slice Ao34 x224004_1.length co34, .bool x224005_1]) ?_ 0 _ rfl; exact (by (with_reducible repeat (first | refine bN ?_ _ | refine bD ?_ | refine bA ?_ _)); exact BKb223.out)⟩; have m_11_ : Aside0 (Kd.R k52 52 w524 w.heap.size (fun _ => True) (.slice Ao37 x11_1.length co37) x11_1) := ⟨by rw [hw_]; exact row_far (w := w502) (by (with_reducible repeat (first | apply rrA | apply rrN | apply rrD)); exact HO_11.out) (by (with_reducible repeat (first | refine bN ?_ _ | refine bD ?_ | refine bA ?_ _)); exact BKb223.out) (by decide) _ (fun k_ hk_ => by refine (hhS _ _ _ k_ hk_).trans ?_; refine (hhS _ _ _ k_ hk_).trans ?_; refine (hhS _ _ _ k_ hk_).trans ?_; refine (hhS _ _ _ k_ hk_).trans ?_; refine (hhS _ _ _ k_ hk_).trans ?_; refine (hhS _ _ _ k_ hk_).trans ?_; exact rfl)⟩; have m239_ : Aside0 (Kd.R (Kd.int .i64) 3 w524 w.heap.size (fun _ => True) (.slice Ao58 t237.length co58) t237) := ⟨by rw [hw_]; exact row_far (w := w502) (by (with_reducible repeat (first | apply rrA | apply rrN | apply rrD)); exact HO239.out) (by (with_reducible repeat (first | refine bN ?_ _ | refine bD ?_ | refine bA ?_ _)); exact BKb223.out) (by decide) _ (fun k_ hk_ => by refine (hhS _ _ _ k_ hk_).trans ?_; refine (hhS _ _ _ k_ hk_).trans ?_; refine (hhS _ _ _ k_ hk_).trans ?_; refine (hhS _ _ _ k_ hk_).trans ?_; refine (hhS _ _ _ k_ hk_).trans ?_; refine (hhS _ _ _ k_ hk_).trans ?_; exact rfl)⟩; have m242_ : Aside0 (Kd.R Kd.bool 4 w524 w.heap.size (fun _ => True) (.slice Ao60 t240.length co60) t240) := ⟨by rw [hw_]; exact row_far (w := w502) (by (with_reducible repeat (first | apply rrA | apply rrN | apply rrD)); exact HO242.out) (by (with_reducible repeat (first | refine bN ?_ _ | refine bD ?_ | refine bA ?_ _)); exact BKb223.out) (by decide) _ (fun k_ hk_ => by refine (hhS _ _ _ k_ hk_).trans ?_; refine (hhS _ _ _ k_ hk_).trans ?_; refine (hhS _ _ _ k_ hk_).trans ?_; refine (hhS _ _ _ k_ hk_).trans ?_; refine (hhS _ _ _ k_ hk_).trans ?_; refine (hhS _ _ _ k_ hk_).trans ?_; exact rfl)⟩; have hb_ : Aside0 (Below w.heap.size w w524) := ⟨by rw [hw_]; refine lS ?_ GEb223.out; refine lS ?_ GEb223.out; refine lS ?_ GEb223.out; refine lS ?_ GEb223.out; refine lS ?_ GEb223.out; refine lS ?_ GEb223.out; exact (by repeat (first | (with_reducible first | exact HB.out | apply lA | apply lN | apply lD | refine lS ?_ GEb211.out | refine lS ?_ GEb223.out | refine lS ?_ GEb248.out | refine lS ?_ GEb249.out) | exact HB.out))⟩; clear BKb211 BKb223 BKb248 BKb249 HO_11 HO239 HO242 HB; have BKb211 := nb211_; have BKb223 := nb223_; have BKb248 := nb248_; have BKb249 := nb249_; have HO_11 := m_11_; have HO239 := m239_; have HO242 := m242_; have HB := hb_; clear nb211_ nb223_ nb248_ nb249_ m_11_ m239_ m242_ hb_; clear hw_; (try clear hz503 fhz503 hz504 fhz504 hz505 fhz505 hz506 fhz506 hz507 fhz507 hz508 fhz508 hz509 fhz509 hz510 fhz510 hz511 fhz511 hz512 fhz512 hz513 fhz513 hz514 fhz514 hz515 fhz515 hz516 fhz516 hz517 fhz517 hz518 fhz518 hz519 fhz519 hz520 fhz520 hz521 fhz521 hz522 fhz522 hz523 fhz523); have hz525 : w524.cell? ⟨gb211, 0, none⟩ = some (.int .i64 x212000_1) := (bC BKb211.out 0).trans rfl; have fhz525 := bF BKb211.out 0; have hz526 : w524.cell? ⟨gb211, 1, none⟩ = some (.int .i64 x212001_1) := (bC BKb211.out 1).trans rfl; have fhz526 := bF BKb211.out 1; have hz527 : w524.cell? ⟨gb211, 2, none⟩ = some (.int .i64 x212002_1) := (bC BKb211.out 2).trans rfl; have fhz527 := bF BKb211.out 2; have hz528 : w524.cell? ⟨gb211, 3, none⟩ = some (.slice none 0 0) := (bC BKb211.out 3).trans rfl; have fhz528 := bF BKb211.out 3; have hz529 : w524.cell? ⟨gb211, 4, none⟩ = some (.slice none 0 0) := (bC BKb211.out 4).trans rfl; have fhz529 := bF BKb211.out 4; have hz530 : w524.cell? ⟨gb211, 5, none⟩ = some (.bool x212005_1) := (bC BKb211.out 5).trans rfl; have fhz530 := bF BKb211.out 5; have hz531 : w524.cell? ⟨gb223, 0, none⟩ = some (.int .i64 t234) := (bC BKb223.out 0).trans rfl; have fhz531 := bF BKb223.out 0; have hz532 : w524.cell? ⟨gb223, 1, none⟩ = some (.int .i64 t235) := (bC BKb223.out 1).trans rfl; have fhz532 := bF BKb223.out 1; have hz533 : w524.cell? ⟨gb223, 2, none⟩ = some (.int .i64 t236) := (bC BKb223.out 2).trans rfl; have fhz533 := bF BKb223.out 2; have hz534 : w524.cell? ⟨gb223, 3, none⟩ = some ((.slice Ao58 t237.length co58)) := (bC BKb223.out 3).trans rfl; have fhz534 := bF BKb223.out 3; have hz535 : w524.cell? ⟨gb223, 4, none⟩ = some ((.slice Ao60 t240.length co60)) := (bC BKb223.out 4).trans rfl; have fhz535 := bF BKb223.out 4; have hz536 : w524.cell? ⟨gb223, 5, none⟩ = some (.bool t243) := (bC BKb223.out 5).trans rfl; have fhz536 := bF BKb223.out 5; have hz537 : w524.cell? ⟨gb248, 0, none⟩ = some (.int .i64 t234) := (bC BKb248.out 0).trans rfl; have fhz537 := bF BKb248.out 0; have hz538 : w524.cell? ⟨gb248, 1, none⟩ = some (.int .i64 t235) := (bC BKb248.out 1).trans rfl; have fhz538 := bF BKb248.out 1; have hz539 : w524.cell? ⟨gb248, 2, none⟩ = some (.int .i64 t236) := (bC BKb248.out 2).trans rfl; have fhz539 := bF BKb248.out 2; have hz540 : w524.cell? ⟨gb248, 3, none⟩ = some ((.slice Ao58 t237.length co58)) := (bC BKb248.out 3).trans rfl; have fhz540 := bF BKb248.out 3; have hz541 : w524.cell? ⟨gb248, 4, none⟩ = some ((.slice Ao60 t240.length co60)) := (bC BKb248.out 4).trans rfl; have fhz541 := bF BKb248.out 4; have hz542 : w524.cell? ⟨gb248, 5, none⟩ = some (.bool t243) := (bC BKb248.out 5).trans rfl; have fhz542 := bF BKb248.out 5; have hz543 : w524.cell? ⟨gb249, 0, none⟩ = some (.int .i64 t244) := (bC BKb249.out 0).trans rfl; have fhz543 := bF BKb249.out 0; have hz544 : w524.cell? ⟨gb249, 1, none⟩ = some (.int .i64 t245) := (bC BKb249.out 1).trans rfl; have fhz544 := bF BKb249.out 1; have hz545 : w524.cell? ⟨gb249, 2, none⟩ = some (.int .i64 t246) := (bC BKb249.out 2).trans rfl; have fhz545 := bF BKb249.out 2) | ((with_reducible refine gate_builtin (b := .append) (xs := #[.tmp 75, .tmp 77]) rfl ?_); at_builtin; refine Kd.R_append k52 (w0 := w) w.heap.size rfl (.tmp 75) (.tmp 77) 39 52 (.agg #[(.int .i64 0), (.int .i64 0), (.int .i64 0)]) 24 rfl Try.underlying39 info52 rfl (by decide) (by omega) (.slice Ao37 x11_1.length co37) x11_1 (⟨t244, t245, t246⟩ : S52) [.int .i64 t244, .int .i64 t245, .int .i64 t246] (fun _ => True) (fun _ => False) rfl rfl ?aP (fun _ hk => hk.elim) ?aF ?aO ?aB ?aS ?aL ?_; (case aP => exact k52_mkM _ _ _ (⟨t244, t245, t246⟩ : S52)); (case aB => exact HB.out); (case aF => exact (fun _ _ => trivial)); (case aO => exact HO_11.out); (case aS => exact (lZ HB.out)); (case aL => have := LMc49.out; omega); intro vo w546 ho hb hg hat; rw [← Ny250.out] at ho; have nb211_ := aaM (blk_grown (g := gb211) BKb211.out hg (Kd.R_ne HO_11.out BKb211.out (by decide))); have nb223_ := aaM (blk_grown (g := gb223) BKb223.out hg (Kd.R_ne HO_11.out BKb223.out (by decide))); have nb248_ := aaM (blk_grown (g := gb248) BKb248.out hg (Kd.R_ne HO_11.out BKb248.out (by decide))); have m239_ := aaM (Kd.R_over HO239.out HO_11.out (by decide) hg); have m242_ := aaM (Kd.R_over HO242.out HO_11.out (by decide) hg); have mo_ := aaM ho; have hb_ := aaM hb; clear BKb249; clear BKb211 BKb223 BKb248 HO_11 HO239 HO242 HB; have BKb211 := nb211_; have BKb223 := nb223_; have BKb248 := nb248_; have HO_11 := mo_; have HO239 := m239_; have HO242 := m242_; have HB := hb_; clear nb211_ nb223_ nb248_ mo_ m239_ m242_ hb_; clear ho hb hg hat))
            go_roundg kj39
            case measure => have := HK1.out; have := HJ29.out; have := HJ39.out; omega
            case rel => exact ⟨(y250), (x212000_1), (x212001_1), (x212002_1), (x212005_1), (t234), (t235), (t236), (t237), (t240), (t243), (.slice Ao58 t237.length co58), (.slice Ao60 t240.length co60), H', ⟨by have := HK1.out; have := HJ29.out; have := HJ39.out; omega⟩, ⟨by (with_reducible repeat (first | apply rrA | apply rrN | apply rrD)); exact Kd.R_mono HO_11.out (fun _ hk => trivial)⟩, ⟨by (with_reducible repeat (first | apply rrA | apply rrN | apply rrD)); exact Kd.R_mono HO239.out (fun _ hk => trivial)⟩, ⟨by (with_reducible repeat (first | apply rrA | apply rrN | apply rrD)); exact Kd.R_mono HO242.out (fun _ hk => trivial)⟩, ⟨by (with_reducible repeat (first | refine bN ?_ _ | refine bD ?_ | refine bA ?_ _)); exact BKb211.out⟩, ⟨by (with_reducible repeat (first | refine bN ?_ _ | refine bD ?_ | refine bA ?_ _)); exact BKb223.out⟩, ⟨by repeat (first | (with_reducible first | exact HB.out | apply lA | apply lN | apply lD | refine lS ?_ GE211.out | refine lS ?_ GE223.out | refine lS ?_ GE248.out | refine lS ?_ GE249.out) | exact HB.out)⟩⟩
           ·rw [if_neg c49] at H
            exact absurd H (by simp)
          ·rw [if_neg c47] at H
           exact absurd H (by simp)
         ·rw [if_neg c46] at H
          exact absurd H (by simp)
 ·rw [if_neg c5] at H
  have c5b0 : (t222 == 0) = false := beq_eq_false_iff_ne.mpr c5
  have c5b1 : (t222 != 0) = true := bne_iff_ne.mpr c5
  simp only [Option.some.injEq, Prod.mk.injEq] at H
  obtain ⟨rfl, rfl, rfl, rfl, rfl, rfl, rfl, rfl⟩ := H
  go_enter Try.func23, Try.ntmps23
  go_wp2_with (first | ((with_reducible refine gate_dst (N := 7) rfl ?_); refine box_event ?hg (N := 7) ?hd (cs := #[.int .i64 0, .int .i64 0, .int .i64 0, .slice none 0 0, .slice none 0 0, .bool false]) (t := 42) ?hr ?_; (case hd => rfl); (case hg => rfl); (case hr => first | (go_simp; done) | (go_simp; rfl)); intro gb211 hg w76 hbox hb; have n0_ := aaM (lP (by repeat (first | (with_reducible first | exact HB.out | apply lA | apply lN | apply lD) | exact HB.out)) hb); have n1_ := aaM (hbox); have n2_ := aaM ((by rw [hg]; exact (lZ (by repeat (first | (with_reducible first | exact HB.out | apply lA | apply lN | apply lD) | exact HB.out))) : w.heap.size ≤ gb211)); have n3_ := aaM ((by rw [hg]; exact (lZ (by repeat (first | (with_reducible first | exact HB.out | apply lA | apply lN | apply lD) | exact HB.out))) : w.heap.size ≤ gb211)); clear HB; have HB := n0_; have BK211 := n1_; have GW211 := n2_; have GE211 := n3_; clear n0_ n1_ n2_ n3_; clear hb hbox hg) | ((with_reducible refine gate_callee (f := 55) rfl ?_); refine goesL_ (some 21) rfl rfl Try.func55 (by kernel_rfl) rfl #[.int .i64 a0, .int .i64 a1] rfl (by (try simp only [List.map_toArray, List.map_cons, List.map_nil]); first | done | rfl | (simp only [List.length_drop, List.length_take]; rfl)) ?_; (with_reducible refine (hornbeamref21_New.calls k a0 a1 t212 t213 t214 t215 t218 t221 t222 _ A4.out).mono ?_); rintro e w77 ⟨v216, v219, rfl, ho0, ho1, hb⟩; refine ⟨_, rfl, ?_⟩; have n0_ := aaM (Kd.R_lower ho0 (lZ (by repeat (first | (with_reducible first | exact HB.out | apply lA | apply lN | apply lD | refine lS ?_ GE211.out) | exact HB.out)))); have n1_ := aaM (Kd.R_lower ho1 (lZ (by repeat (first | (with_reducible first | exact HB.out | apply lA | apply lN | apply lD | refine lS ?_ GE211.out) | exact HB.out)))); have n2_ := aaM (bB (g := gb211) (o := .cells #[.int .i64 0, .int .i64 0, .int .i64 0, .slice none 0 0, .slice none 0 0, .bool false] 42 (0, 0)) (by (with_reducible repeat (first | refine bN ?_ _ | refine bD ?_ | refine bA ?_ _)); exact BK211.out) hb); have n3_ := aaM (lP (by repeat (first | (with_reducible first | exact HB.out | apply lA | apply lN | apply lD | refine lS ?_ GE211.out) | exact HB.out)) hb); clear BK211; clear HB; have HO217 := n0_; have HO220 := n1_; have BK211 := n2_; have HB := n3_; clear n0_ n1_ n2_ n3_; (try clear hb); (try clear hb2); (try clear hk); (try clear hi); (try clear ho0); (try clear ho1)) | ((with_reducible refine gate_dst (N := 9) rfl ?_); refine box_event ?hg (N := 9) ?hd (cs := #[.int .i64 0, .int .i64 0, .int .i64 0, .slice none 0 0, .slice none 0 0, .bool false]) (t := 42) ?hr ?_; (case hd => rfl); (case hg => rfl); (case hr => first | (go_simp; done) | (go_simp; rfl)); intro gb223 hg w78 hbox hb; have n0_ := aaM (rrB (by (with_reducible repeat (first | apply rrA | apply rrN | apply rrD)); exact HO217.out) hb); have n1_ := aaM (rrB (by (with_reducible repeat (first | apply rrA | apply rrN | apply rrD)); exact HO220.out) hb); have n2_ := aaM (bB (g := gb211) (o := .cells #[.int .i64 0, .int .i64 0, .int .i64 0, .slice none 0 0, .slice none 0 0, .bool false] 42 (0, 0)) (by (with_reducible repeat (first | refine bN ?_ _ | refine bD ?_ | refine bA ?_ _)); exact BK211.out) hb); have n3_ := aaM (lP (by repeat (first | (with_reducible first | exact HB.out | apply lA | apply lN | apply lD | refine lS ?_ GE211.out) | exact HB.out)) hb); have n4_ := aaM (hbox); have n5_ := aaM ((by rw [hg]; exact (lZ (by repeat (first | (with_reducible first | exact HB.out | apply lA | apply lN | apply lD | refine lS ?_ GE211.out) | exact HB.out))) : w.heap.size ≤ gb223)); have n6_ := aaM ((by rw [hg]; exact (lZ (by repeat (first | (with_reducible first | exact HB.out | apply lA | apply lN | apply lD | refine lS ?_ GE211.out) | exact HB.out))) : w.heap.size ≤ gb223)); have n7_ := aaM ((by rw [hg]; exact Nat.ne_of_lt (bL (g := gb211) (by (with_reducible repeat (first | refine bN ?_ _ | refine bD ?_ | refine bA ?_ _)); exact BK211.out)) : gb211 ≠ gb223)); have n8_ := aaM ((by rw [hg]; exact Nat.ne_of_gt (bL (g := gb211) (by (with_reducible repeat (first | refine bN ?_ _ | refine bD ?_ | refine bA ?_ _)); exact BK211.out)) : gb223 ≠ gb211)); clear HO217; clear HO220; clear BK211; clear HB; have HO217 := n0_; have HO220 := n1_; have BK211 := n2_; have HB := n3_; have BK223 := n4_; have GW223 := n5_; have GE223 := n6_; have NB211_223 := n7_; have NB223_211 := n8_; clear n0_ n1_ n2_ n3_ n4_ n5_ n6_ n7_ n8_; clear hb hbox hg; have hnb79 := NB223_211.out; have hnc79 := NB211_223.out; have hcz80_0 : w78.cell? ⟨gb223, 0, none⟩ = some (.int .i64 0) := (bC BK223.out 0).trans rfl; have hcz80_1 : w78.cell? ⟨gb223, 1, none⟩ = some (.int .i64 0) := (bC BK223.out 1).trans rfl; have hcz80_2 : w78.cell? ⟨gb223, 2, none⟩ = some (.int .i64 0) := (bC BK223.out 2).trans rfl; have hcz80_3 : w78.cell? ⟨gb223, 3, none⟩ = some (.slice none 0 0) := (bC BK223.out 3).trans rfl; have hcz80_4 : w78.cell? ⟨gb223, 4, none⟩ = some (.slice none 0 0) := (bC BK223.out 4).trans rfl; have hcz80_5 : w78.cell? ⟨gb223, 5, none⟩ = some (.bool false) := (bC BK223.out 5).trans rfl; have hfz80_0 := bF BK223.out 0; have hfz80_1 := bF BK223.out 1; have hfz80_2 := bF BK223.out 2; have hfz80_3 := bF BK223.out 3; have hfz80_4 := bF BK223.out 4; have hfz80_5 := bF BK223.out 5; obtain ⟨Ao81, co81, eo81⟩ := Kd.R_slice HO217.out; subst eo81; obtain ⟨Ao82, co82, eo82⟩ := Kd.R_slice HO220.out; subst eo82; have hcz83_0 : w78.cell? ⟨gb211, 0, none⟩ = some (.int .i64 0) := (bC BK211.out 0).trans rfl; have hcz83_1 : w78.cell? ⟨gb211, 1, none⟩ = some (.int .i64 0) := (bC BK211.out 1).trans rfl; have hcz83_2 : w78.cell? ⟨gb211, 2, none⟩ = some (.int .i64 0) := (bC BK211.out 2).trans rfl; have hcz83_3 : w78.cell? ⟨gb211, 3, none⟩ = some (.slice none 0 0) := (bC BK211.out 3).trans rfl; have hcz83_4 : w78.cell? ⟨gb211, 4, none⟩ = some (.slice none 0 0) := (bC BK211.out 4).trans rfl; have hcz83_5 : w78.cell? ⟨gb211, 5, none⟩ = some (.bool false) := (bC BK211.out 5).trans rfl; have hfz83_0 := bF BK211.out 0; have hfz83_1 := bF BK211.out 1; have hfz83_2 := bF BK211.out 2; have hfz83_3 := bF BK211.out 3; have hfz83_4 := bF BK211.out 4; have hfz83_5 := bF BK211.out 5))
  refine bodyPost_ret (results_list (rs := [.tmp 6, .cell 7 42, .tmp 8]) rfl (by simp) (.tmp (.cell gb211 42 #[.int .i64 0, .int .i64 0, .int .i64 0, .slice none 0 0, .slice none 0 0, .bool false] (0, 0) _ rfl (by (with_reducible repeat (first | refine bN ?_ _ | refine bD ?_ | refine bA ?_ _)); refine blk_put (cs := #[.int .i64 0, .int .i64 0, .int .i64 0, .slice none 0 0, .slice none 0 0, .bool false]) ?_ 5 _ rfl; (with_reducible repeat (first | refine bN ?_ _ | refine bD ?_ | refine bA ?_ _)); refine blk_put (cs := #[.int .i64 0, .int .i64 0, .int .i64 0, .slice none 0 0, .slice none 0 0, .bool false]) ?_ 4 _ rfl; (with_reducible repeat (first | refine bN ?_ _ | refine bD ?_ | refine bA ?_ _)); refine blk_put (cs := #[.int .i64 0, .int .i64 0, .int .i64 0, .slice none 0 0, .slice none 0 0, .bool false]) ?_ 3 _ rfl; (with_reducible repeat (first | refine bN ?_ _ | refine bD ?_ | refine bA ?_ _)); refine blk_put (cs := #[.int .i64 0, .int .i64 0, .int .i64 0, .slice none 0 0, .slice none 0 0, .bool false]) ?_ 2 _ rfl; (with_reducible repeat (first | refine bN ?_ _ | refine bD ?_ | refine bA ?_ _)); refine blk_put (cs := #[.int .i64 0, .int .i64 0, .int .i64 0, .slice none 0 0, .slice none 0 0, .bool false]) ?_ 1 _ rfl; (with_reducible repeat (first | refine bN ?_ _ | refine bD ?_ | refine bA ?_ _)); refine blk_put (cs := #[.int .i64 0, .int .i64 0, .int .i64 0, .slice none 0 0, .slice none 0 0, .bool false]) ?_ 0 _ rfl; (with_reducible repeat (first | refine bN ?_ _ | refine bD ?_ | refine bA ?_ _)); refine blk_far ?_ NB211_223.out _; (with_reducible repeat (first | refine bN ?_ _ | refine bD ?_ | refine bA ?_ _)); refine blk_far ?_ NB211_223.out _; (with_reducible repeat (first | refine bN ?_ _ | refine bD ?_ | refine bA ?_ _)); refine blk_far ?_ NB211_223.out _; (with_reducible repeat (first | refine bN ?_ _ | refine bD ?_ | refine bA ?_ _)); refine blk_far ?_ NB211_223.out _; (with_reducible repeat (first | refine bN ?_ _ | refine bD ?_ | refine bA ?_ _)); refine blk_far ?_ NB211_223.out _; (with_reducible repeat (first | refine bN ?_ _ | refine bD ?_ | refine bA ?_ _)); refine blk_far ?_ NB211_223.out _; (with_reducible repeat (first | refine bN ?_ _ | refine bD ?_ | refine bA ?_ _)); exact BK211.out) Try.underlying42 rfl (by kernel_rfl) (.tmp .nil)))) rfl ?_
  exact ⟨_, _, _, by first | rfl | (simp [errW_none, errW_some] <;> rfl) | (simp [*, errW_none, errW_some] <;> rfl), by first | exact Kd.R_nil _ _ _ _ _ | exact Kd.N_nil _ _ _ _ _ | exact Kd.V_nil _ _ _ _ _ | exact Kd.Q_nil _ _ _ _ _ | exact Kd.S_nil _ _ _ _ _, by first | exact Kd.R_nil _ _ _ _ _ | exact Kd.N_nil _ _ _ _ _ | exact Kd.V_nil _ _ _ _ _ | exact Kd.Q_nil _ _ _ _ _ | exact Kd.S_nil _ _ _ _ _, by first | exact Kd.R_nil _ _ _ _ _ | exact Kd.N_nil _ _ _ _ _ | exact Kd.V_nil _ _ _ _ _ | exact Kd.Q_nil _ _ _ _ _ | exact Kd.S_nil _ _ _ _ _, by repeat (first | (with_reducible first | exact HB.out | apply lA | apply lN | apply lD | refine lS ?_ GE211.out | refine lS ?_ GE223.out) | exact HB.out)⟩

end Go.Proofs.Ytoonddgldmfleaa.QSchedPlays
