-- Written by a program of this session (wip/tools/mkprint.py over the kit's print); Lean checks it.
import Derived.Test.YtoonddgldmfleaaQSpreadScoresx0
import Derived.Test.YtoonddgldmfleaaQSpreadScoresx9
import Derived.Test.YtoonddgldmfleaaQSpreadScoresx10
import Derived.Test.YtoonddgldmfleaaQSpreadScoresx11
namespace Go.Proofs.Ytoonddgldmfleaa.QSpreadScores
open Go.RowKit Go.Proofs.YtoonddgldmfleaaW.PrintWords Go.Proofs.YtoonddgldmfleaaW.PrintLast Go.Proofs.YtoonddgldmfleaaW.PrintMore
attribute [local go_sem] max2_int min2_int max_two min_two max_three min_three max_four min_four   -- for this text's walks alone
set_option linter.unusedVariables false
set_option linter.unusedSimpArgs false

/-! ### hornbeamref15_Score: function 31 -/
def hornbeamref15_Score.j0 : Nat → Bool → Int → Int → Int → Int → Int → Int → Option (Int × Int × Int)
  | 0, _, _, _, _, _, _, _ => none
  | k + 1, x24, x341000, x341001, x341002, x342000, x342001, x342002 => if x24 = true then (some (0, 0, 0)) else ((hornbeamref15_square.f k x341001).bind fun bt345 => ((hornbeamref15_times.f k bt345.1 bt345.2 x342000).bind fun bt347 => ((hornbeamref15_square.f k x342001).bind fun bt349 => ((hornbeamref15_times.f k bt349.1 bt349.2 x341000).bind fun bt351 => ((hornbeamref04_Add.f k bt347.1 bt347.2 bt351.1 bt351.2).bind fun bt353 => (some (bt353.1, bt353.2.1, IntKind.u64.wrap (wrap64 (x341000 * x342000)))))))))
def hornbeamref15_Score.f (k : Nat) (a0_0 : Int) (a0_1 : Int) (a0_2 : Int) (a1_0 : Int) (a1_1 : Int) (a1_2 : Int) : Option (Int × Int × Int) := (hornbeamref15_May.f k a0_0 a0_1 a0_2).bind fun t343 => (if t343 = true then ((hornbeamref15_May.f k a1_0 a1_1 a1_2).bind fun t344 => (if t344 = true then (if a0_0 = 0 then (hornbeamref15_Score.j0 k true a0_0 a0_1 a0_2 a1_0 a1_1 a1_2) else (hornbeamref15_Score.j0 k (a1_0 == 0) a0_0 a0_1 a0_2 a1_0 a1_1 a1_2)) else (hornbeamref15_Score.j0 k true a0_0 a0_1 a0_2 a1_0 a1_1 a1_2))) else (hornbeamref15_Score.j0 k true a0_0 a0_1 a0_2 a1_0 a1_1 a1_2))
theorem hornbeamref15_Score.mono_l : ∀ k, (∀ y0 y1 y2 y3 y4 y5 y6, LeO (hornbeamref15_Score.j0 k y0 y1 y2 y3 y4 y5 y6) (hornbeamref15_Score.j0 (k + 1) y0 y1 y2 y3 y4 y5 y6))
  | 0 => fun _ _ _ _ _ _ _ r h => by simp [hornbeamref15_Score.j0] at h
  | k + 1 => by
    have ih0 := hornbeamref15_Score.mono_l k
    · intro y0 y1 y2 y3 y4 y5 y6
      unfold hornbeamref15_Score.j0
      repeat' first
      | (with_reducible exact ih0 _ _ _ _ _ _ _)
      | (with_reducible exact hornbeamref04_Add.mono _ _ _ _ _)
      | (with_reducible exact hornbeamref15_May.mono _ _ _ _)
      | (with_reducible exact hornbeamref15_square.mono _ _)
      | (with_reducible exact hornbeamref15_times.mono _ _ _ _)
      | (with_reducible exact LeO.refl _)
      | (with_reducible exact LeO.none _)
      | (with_reducible refine LeO.ite ?_ ?_)
      | (with_reducible refine LeO.bind ?_ (fun _ => ?_))
      | exact ih0 _ _ _ _ _ _ _
      | exact hornbeamref04_Add.mono _ _ _ _ _
      | exact hornbeamref15_May.mono _ _ _ _
      | exact hornbeamref15_square.mono _ _
      | exact hornbeamref15_times.mono _ _ _ _
      | exact LeO.none _
      | refine LeO.ite ?_ ?_
      | refine LeO.bind ?_ (fun _ => ?_)
theorem hornbeamref15_Score.mono : ∀ a0 a1 a2 a3 a4 a5 k, LeO (hornbeamref15_Score.f k a0 a1 a2 a3 a4 a5) (hornbeamref15_Score.f (k + 1) a0 a1 a2 a3 a4 a5) := by
  intro a0 a1 a2 a3 a4 a5 k
  have ih0 := hornbeamref15_Score.mono_l k
  unfold hornbeamref15_Score.f
  repeat' first
      | (with_reducible exact ih0 _ _ _ _ _ _ _)
      | (with_reducible exact hornbeamref04_Add.mono _ _ _ _ _)
      | (with_reducible exact hornbeamref15_May.mono _ _ _ _)
      | (with_reducible exact hornbeamref15_square.mono _ _)
      | (with_reducible exact hornbeamref15_times.mono _ _ _ _)
      | (with_reducible exact LeO.refl _)
      | (with_reducible exact LeO.none _)
      | (with_reducible refine LeO.ite ?_ ?_)
      | (with_reducible refine LeO.bind ?_ (fun _ => ?_))
      | exact ih0 _ _ _ _ _ _ _
      | exact hornbeamref04_Add.mono _ _ _ _ _
      | exact hornbeamref15_May.mono _ _ _ _
      | exact hornbeamref15_square.mono _ _
      | exact hornbeamref15_times.mono _ _ _ _
      | exact LeO.none _
      | refine LeO.ite ?_ ?_
      | refine LeO.bind ?_ (fun _ => ?_)
def hornbeamref15_Score.T3 : Bool × List (List Nat × List Nat) := (true, [([], []), ([0], [0]), ([1], [1]), ([], []), ([3], [3]), ([2, 4, 2], [2, 4]), ([], []), ([6], [6]), ([7, 5], [7]), ([], []), ([9], [9]), ([8, 10, 8], [8, 10]), ([5, 11, 11], [5, 11]), ([12], [12]), ([13], [13]), ([13], [13]), ([], []), ([16, 14, 12, 0, 1, 2, 3, 4, 5, 6, 7, 8, 9, 10, 11, 12, 13, 14, 16], [14, 16]), ([15, 17, 0, 1, 2, 3, 4, 5, 6, 7, 8, 9, 10, 11, 12, 13, 14, 15, 16, 17], [15])])
def hornbeamref15_Score.B3 : List Nat := [0, 1, 3, 0, 8, 31, 0, 64, 255, 0, 512, 2047, 4095, 8191, 16383, 16383, 0, 98303, 262143]
theorem hornbeamref15_Score.tab3 : rtab .any (opsOf Try.f31 3) = hornbeamref15_Score.T3 := by kernel_rfl
theorem hornbeamref15_Score.bits3 : waitsOk hornbeamref15_Score.T3.2 hornbeamref15_Score.B3 = true := by kernel_rfl
set_option maxHeartbeats 8000000 in
set_option maxRecDepth 100000 in
theorem hornbeamref15_Score.calls (k : Nat) (a0_0 : Int) (a0_1 : Int) (a0_2 : Int) (a1_0 : Int) (a1_1 : Int) (a1_2 : Int) (r1 : Int) (r2 : Int) (r3 : Int) (w : World) (h : hornbeamref15_Score.f k a0_0 a0_1 a0_2 a1_0 a1_1 a1_2 = some (r1, r2, r3)) :
  Calls Try.prog 31 #[.agg #[.int .i64 a0_0, .int .i64 a0_1, .int .i64 a0_2], .agg #[.int .i64 a1_0, .int .i64 a1_1, .int .i64 a1_2]] w fun e w' => e = .returned (.agg #[.int .u64 r1, .int .u64 r2, .int .u64 r3]) ∧ Below w.heap.size w w' := by
 have hu26 := Try.underlying26
 have hu36 := Try.underlying36
 have hu34 := Try.underlying34
 have HB := Aside0.mk (Below.refl w.heap.size w)
 have H : ((hornbeamref15_May.f k a0_0 a0_1 a0_2).bind fun t343 => (if t343 = true then ((hornbeamref15_May.f k a1_0 a1_1 a1_2).bind fun t344 => (if t344 = true then (if a0_0 = 0 then (hornbeamref15_Score.j0 k true a0_0 a0_1 a0_2 a1_0 a1_1 a1_2) else (hornbeamref15_Score.j0 k (a1_0 == 0) a0_0 a0_1 a0_2 a1_0 a1_1 a1_2)) else (hornbeamref15_Score.j0 k true a0_0 a0_1 a0_2 a1_0 a1_1 a1_2))) else (hornbeamref15_Score.j0 k true a0_0 a0_1 a0_2 a1_0 a1_1 a1_2))) = some (r1, r2, r3) := h
 clear h
 have HC3 := Aside0.mk H
 clear H
 go_enter Try.func31, Try.ntmps31
 go_upto_region 1 with (first | ((with_reducible refine gate_dst (N := 2) rfl ?_); refine box_event ?hg (N := 2) ?hd (cs := #[.int .i64 a0_0, .int .i64 a0_1, .int .i64 a0_2]) (t := 26) ?hr ?_; (case hd => rfl); (case hg => rfl); (case hr => first | (go_simp; done) | (go_simp; rfl)); intro gb340 hg w4 hbox hb; have n0_ := Aside0.mk (lP (by repeat (first | (with_reducible first | exact HB.out | apply lA | apply lN | apply lD) | exact HB.out)) hb); have n1_ := Aside0.mk (hbox); have n2_ := Aside0.mk ((by rw [hg]; exact (lZ (by repeat (first | (with_reducible first | exact HB.out | apply lA | apply lN | apply lD) | exact HB.out))) : w.heap.size ≤ gb340)); have n3_ := Aside0.mk ((by rw [hg]; exact (lZ (by repeat (first | (with_reducible first | exact HB.out | apply lA | apply lN | apply lD) | exact HB.out))) : w.heap.size ≤ gb340)); clear HB; have HB := n0_; have BK340 := n1_; have GW340 := n2_; have GE340 := n3_; clear n0_ n1_ n2_ n3_; clear hb hbox hg) | ((with_reducible refine gate_dst (N := 3) rfl ?_); refine box_event ?hg (N := 3) ?hd (cs := #[.int .i64 a1_0, .int .i64 a1_1, .int .i64 a1_2]) (t := 26) ?hr ?_; (case hd => rfl); (case hg => rfl); (case hr => first | (go_simp; done) | (go_simp; rfl)); intro gb341 hg w5 hbox hb; have n0_ := Aside0.mk (bB (g := gb340) (o := .cells #[.int .i64 a0_0, .int .i64 a0_1, .int .i64 a0_2] 26 (0, 0)) (by (with_reducible repeat (first | refine bN ?_ _ | refine bD ?_ | refine bA ?_ _)); exact BK340.out) hb); have n1_ := Aside0.mk (lP (by repeat (first | (with_reducible first | exact HB.out | apply lA | apply lN | apply lD | refine lS ?_ GE340.out) | exact HB.out)) hb); have n2_ := Aside0.mk (hbox); have n3_ := Aside0.mk ((by rw [hg]; exact (lZ (by repeat (first | (with_reducible first | exact HB.out | apply lA | apply lN | apply lD | refine lS ?_ GE340.out) | exact HB.out))) : w.heap.size ≤ gb341)); have n4_ := Aside0.mk ((by rw [hg]; exact (lZ (by repeat (first | (with_reducible first | exact HB.out | apply lA | apply lN | apply lD | refine lS ?_ GE340.out) | exact HB.out))) : w.heap.size ≤ gb341)); have n5_ := Aside0.mk ((by rw [hg]; exact Nat.ne_of_lt (bL (g := gb340) (o := .cells #[.int .i64 a0_0, .int .i64 a0_1, .int .i64 a0_2] 26 (0, 0)) (by (with_reducible repeat (first | refine bN ?_ _ | refine bD ?_ | refine bA ?_ _)); exact BK340.out)) : gb340 ≠ gb341)); have n6_ := Aside0.mk ((by rw [hg]; exact Nat.ne_of_gt (bL (g := gb340) (o := .cells #[.int .i64 a0_0, .int .i64 a0_1, .int .i64 a0_2] 26 (0, 0)) (by (with_reducible repeat (first | refine bN ?_ _ | refine bD ?_ | refine bA ?_ _)); exact BK340.out)) : gb341 ≠ gb340)); clear BK340; clear HB; have BK340 := n0_; have HB := n1_; have BK341 := n2_; have GW341 := n3_; have GE341 := n4_; have NB340_341 := n5_; have NB341_340 := n6_; clear n0_ n1_ n2_ n3_ n4_ n5_ n6_; clear hb hbox hg) | ((with_reducible refine gate_dst (N := 4) rfl ?_); refine box_event ?hg (N := 4) ?hd (cs := #[.int .u64 0, .int .u64 0, .int .u64 0]) (t := 36) ?hr ?_; (case hd => rfl); (case hg => rfl); (case hr => first | (go_simp; done) | (go_simp; rfl)); intro gb342 hg w6 hbox hb; have n0_ := Aside0.mk (bB (g := gb340) (o := .cells #[.int .i64 a0_0, .int .i64 a0_1, .int .i64 a0_2] 26 (0, 0)) (by (with_reducible repeat (first | refine bN ?_ _ | refine bD ?_ | refine bA ?_ _)); exact BK340.out) hb); have n1_ := Aside0.mk (bB (g := gb341) (o := .cells #[.int .i64 a1_0, .int .i64 a1_1, .int .i64 a1_2] 26 (0, 0)) (by (with_reducible repeat (first | refine bN ?_ _ | refine bD ?_ | refine bA ?_ _)); exact BK341.out) hb); have n2_ := Aside0.mk (lP (by repeat (first | (with_reducible first | exact HB.out | apply lA | apply lN | apply lD | refine lS ?_ GE340.out | refine lS ?_ GE341.out) | exact HB.out)) hb); have n3_ := Aside0.mk (hbox); have n4_ := Aside0.mk ((by rw [hg]; exact (lZ (by repeat (first | (with_reducible first | exact HB.out | apply lA | apply lN | apply lD | refine lS ?_ GE340.out | refine lS ?_ GE341.out) | exact HB.out))) : w.heap.size ≤ gb342)); have n5_ := Aside0.mk ((by rw [hg]; exact (lZ (by repeat (first | (with_reducible first | exact HB.out | apply lA | apply lN | apply lD | refine lS ?_ GE340.out | refine lS ?_ GE341.out) | exact HB.out))) : w.heap.size ≤ gb342)); have n6_ := Aside0.mk ((by rw [hg]; exact Nat.ne_of_lt (bL (g := gb340) (o := .cells #[.int .i64 a0_0, .int .i64 a0_1, .int .i64 a0_2] 26 (0, 0)) (by (with_reducible repeat (first | refine bN ?_ _ | refine bD ?_ | refine bA ?_ _)); exact BK340.out)) : gb340 ≠ gb342)); have n7_ := Aside0.mk ((by rw [hg]; exact Nat.ne_of_gt (bL (g := gb340) (o := .cells #[.int .i64 a0_0, .int .i64 a0_1, .int .i64 a0_2] 26 (0, 0)) (by (with_reducible repeat (first | refine bN ?_ _ | refine bD ?_ | refine bA ?_ _)); exact BK340.out)) : gb342 ≠ gb340)); have n8_ := Aside0.mk ((by rw [hg]; exact Nat.ne_of_lt (bL (g := gb341) (o := .cells #[.int .i64 a1_0, .int .i64 a1_1, .int .i64 a1_2] 26 (0, 0)) (by (with_reducible repeat (first | refine bN ?_ _ | refine bD ?_ | refine bA ?_ _)); exact BK341.out)) : gb341 ≠ gb342)); have n9_ := Aside0.mk ((by rw [hg]; exact Nat.ne_of_gt (bL (g := gb341) (o := .cells #[.int .i64 a1_0, .int .i64 a1_1, .int .i64 a1_2] 26 (0, 0)) (by (with_reducible repeat (first | refine bN ?_ _ | refine bD ?_ | refine bA ?_ _)); exact BK341.out)) : gb342 ≠ gb341)); clear BK340; clear BK341; clear HB; have BK340 := n0_; have BK341 := n1_; have HB := n2_; have BK342 := n3_; have GW342 := n4_; have GE342 := n5_; have NB340_342 := n6_; have NB342_340 := n7_; have NB341_342 := n8_; have NB342_341 := n9_; clear n0_ n1_ n2_ n3_ n4_ n5_ n6_ n7_ n8_ n9_; clear hb hbox hg))
 (try simp only [Act.put, List.setIfInBounds_toArray, List.set_cons_zero, List.set_cons_succ])
 go_cut [24] (fun v24 wc => ∃ (kq : Nat) (x24_2 : Bool), v24 = .bool x24_2 ∧ Aside0 (hornbeamref15_Score.j0 kq x24_2 a0_0 a0_1 a0_2 a1_0 a1_1 a1_2 = some (r1, r2, r3)) ∧ Aside0 (kq ≤ k) ∧ Aside0 (wc.heap[gb340]? = some (.cells #[.int .i64 a0_0, .int .i64 a0_1, .int .i64 a0_2] 26 (0, 0))) ∧ Aside0 (wc.heap[gb341]? = some (.cells #[.int .i64 a1_0, .int .i64 a1_1, .int .i64 a1_2] 26 (0, 0))) ∧ Aside0 (wc.heap[gb342]? = some (.cells #[.int .u64 0, .int .u64 0, .int .u64 0] 36 (0, 0))) ∧ Aside0 (Below w.heap.size w wc))
 case first =>
  have H := HC3.out
  clear HC3
  replace H := Option.bind_eq_some_iff.mp H
  obtain ⟨t343, A70, H⟩ := H
  replace H : (if t343 = true then ((hornbeamref15_May.f k a1_0 a1_1 a1_2).bind fun t344 => (if t344 = true then (if a0_0 = 0 then (hornbeamref15_Score.j0 k true a0_0 a0_1 a0_2 a1_0 a1_1 a1_2) else (hornbeamref15_Score.j0 k (a1_0 == 0) a0_0 a0_1 a0_2 a1_0 a1_1 a1_2)) else (hornbeamref15_Score.j0 k true a0_0 a0_1 a0_2 a1_0 a1_1 a1_2))) else (hornbeamref15_Score.j0 k true a0_0 a0_1 a0_2 a1_0 a1_1 a1_2)) = some (r1, r2, r3) := H
  have A7 := Aside0.mk A70
  clear A70
  by_cases c8 : t343 = true
  ·subst c8
   have H1 : ((hornbeamref15_May.f k a1_0 a1_1 a1_2).bind fun t344 => (if t344 = true then (if a0_0 = 0 then (hornbeamref15_Score.j0 k true a0_0 a0_1 a0_2 a1_0 a1_1 a1_2) else (hornbeamref15_Score.j0 k (a1_0 == 0) a0_0 a0_1 a0_2 a1_0 a1_1 a1_2)) else (hornbeamref15_Score.j0 k true a0_0 a0_1 a0_2 a1_0 a1_1 a1_2))) = some (r1, r2, r3) := by rw [if_pos rfl] at H; exact H
   clear H
   have H := H1
   clear H1
   replace H := Option.bind_eq_some_iff.mp H
   obtain ⟨t344, A90, H⟩ := H
   replace H : (if t344 = true then (if a0_0 = 0 then (hornbeamref15_Score.j0 k true a0_0 a0_1 a0_2 a1_0 a1_1 a1_2) else (hornbeamref15_Score.j0 k (a1_0 == 0) a0_0 a0_1 a0_2 a1_0 a1_1 a1_2)) else (hornbeamref15_Score.j0 k true a0_0 a0_1 a0_2 a1_0 a1_1 a1_2)) = some (r1, r2, r3) := H
   have A9 := Aside0.mk A90
   clear A90
   by_cases c10 : t344 = true
   ·subst c10
    have H1 : (if a0_0 = 0 then (hornbeamref15_Score.j0 k true a0_0 a0_1 a0_2 a1_0 a1_1 a1_2) else (hornbeamref15_Score.j0 k (a1_0 == 0) a0_0 a0_1 a0_2 a1_0 a1_1 a1_2)) = some (r1, r2, r3) := by rw [if_pos rfl] at H; exact H
    clear H
    have H := H1
    clear H1
    by_cases c11 : a0_0 = 0
    ·rw [if_pos c11] at H
     have c11b0 : (a0_0 == 0) = true := beq_iff_eq.mpr c11
     have c11b1 : (a0_0 != 0) = false := bne_eq_false_iff_eq.mpr c11
     clear c11
     (first | rw [c11b0] | (simp only [i64_w, i32_w]; rw [c11b0]) | skip)
     have H' := Aside0.mk H
     clear H
     have hnb12 := NB340_341.out
     have hnc12 := NB341_340.out
     have hnb13 := NB340_342.out
     have hnc13 := NB342_340.out
     have hcz14_0 : w6.cell? ⟨gb340, 0, none⟩ = some (.int .i64 a0_0) := (bC BK340.out 0).trans rfl
     have hcz14_1 : w6.cell? ⟨gb340, 1, none⟩ = some (.int .i64 a0_1) := (bC BK340.out 1).trans rfl
     have hcz14_2 : w6.cell? ⟨gb340, 2, none⟩ = some (.int .i64 a0_2) := (bC BK340.out 2).trans rfl
     have hfz14_0 := bF BK340.out 0
     have hfz14_1 := bF BK340.out 1
     have hfz14_2 := bF BK340.out 2
     go_wp2_with (first | ((with_reducible refine gate_callee (f := 29) rfl ?_); refine goesL_ (some 8) rfl rfl Try.func29 (by kernel_rfl) rfl #[.agg #[.int .i64 a0_0, .int .i64 a0_1, .int .i64 a0_2]] rfl (by (try simp only [List.map_toArray, List.map_cons, List.map_nil]); first | done | rfl | (simp only [List.length_drop, List.length_take]; rfl)) ?_; (with_reducible refine (hornbeamref15_May.calls k a0_0 a0_1 a0_2 true _ A7.out).mono ?_); rintro e w15 ⟨rfl, hb⟩; refine ⟨_, rfl, ?_⟩; have n0_ := Aside0.mk (bB (g := gb340) (o := .cells #[.int .i64 a0_0, .int .i64 a0_1, .int .i64 a0_2] 26 (0, 0)) (by (with_reducible repeat (first | refine bN ?_ _ | refine bD ?_ | refine bA ?_ _)); exact BK340.out) hb); have n1_ := Aside0.mk (bB (g := gb341) (o := .cells #[.int .i64 a1_0, .int .i64 a1_1, .int .i64 a1_2] 26 (0, 0)) (by (with_reducible repeat (first | refine bN ?_ _ | refine bD ?_ | refine bA ?_ _)); exact BK341.out) hb); have n2_ := Aside0.mk (bB (g := gb342) (o := .cells #[.int .u64 0, .int .u64 0, .int .u64 0] 36 (0, 0)) (by (with_reducible repeat (first | refine bN ?_ _ | refine bD ?_ | refine bA ?_ _)); exact BK342.out) hb); have n3_ := Aside0.mk (lP (by repeat (first | (with_reducible first | exact HB.out | apply lA | apply lN | apply lD | refine lS ?_ GE340.out | refine lS ?_ GE341.out | refine lS ?_ GE342.out) | exact HB.out)) hb); clear BK340; clear BK341; clear BK342; clear HB; have BK340 := n0_; have BK341 := n1_; have BK342 := n2_; have HB := n3_; clear n0_ n1_ n2_ n3_; (try clear hb); (try clear hb2); (try clear hk); (try clear hi); have hnb16 := NB341_342.out; have hnc16 := NB342_341.out; have hcz17_0 : w15.cell? ⟨gb341, 0, none⟩ = some (.int .i64 a1_0) := (bC BK341.out 0).trans rfl; have hcz17_1 : w15.cell? ⟨gb341, 1, none⟩ = some (.int .i64 a1_1) := (bC BK341.out 1).trans rfl; have hcz17_2 : w15.cell? ⟨gb341, 2, none⟩ = some (.int .i64 a1_2) := (bC BK341.out 2).trans rfl; have hfz17_0 := bF BK341.out 0; have hfz17_1 := bF BK341.out 1; have hfz17_2 := bF BK341.out 2) | (go_at_call 29; (with_reducible refine (hornbeamref15_May.calls k a1_0 a1_1 a1_2 true _ A9.out).mono ?_); rintro e w18 ⟨rfl, hb⟩; have n0_ := Aside0.mk (bB (g := gb340) (o := .cells #[.int .i64 a0_0, .int .i64 a0_1, .int .i64 a0_2] 26 (0, 0)) (by (with_reducible repeat (first | refine bN ?_ _ | refine bD ?_ | refine bA ?_ _)); exact BK340.out) hb); have n1_ := Aside0.mk (bB (g := gb341) (o := .cells #[.int .i64 a1_0, .int .i64 a1_1, .int .i64 a1_2] 26 (0, 0)) (by (with_reducible repeat (first | refine bN ?_ _ | refine bD ?_ | refine bA ?_ _)); exact BK341.out) hb); have n2_ := Aside0.mk (bB (g := gb342) (o := .cells #[.int .u64 0, .int .u64 0, .int .u64 0] 36 (0, 0)) (by (with_reducible repeat (first | refine bN ?_ _ | refine bD ?_ | refine bA ?_ _)); exact BK342.out) hb); have n3_ := Aside0.mk (lP (by repeat (first | (with_reducible first | exact HB.out | apply lA | apply lN | apply lD | refine lS ?_ GE340.out | refine lS ?_ GE341.out | refine lS ?_ GE342.out) | exact HB.out)) hb); clear BK340; clear BK341; clear BK342; clear HB; have BK340 := n0_; have BK341 := n1_; have BK342 := n2_; have HB := n3_; clear n0_ n1_ n2_ n3_; (try clear hb); (try clear hb2); (try clear hk); (try clear hi); have hcz19_0 : w18.cell? ⟨gb340, 0, none⟩ = some (.int .i64 a0_0) := (bC BK340.out 0).trans rfl; have hcz19_1 : w18.cell? ⟨gb340, 1, none⟩ = some (.int .i64 a0_1) := (bC BK340.out 1).trans rfl; have hcz19_2 : w18.cell? ⟨gb340, 2, none⟩ = some (.int .i64 a0_2) := (bC BK340.out 2).trans rfl; have hfz19_0 := bF BK340.out 0; have hfz19_1 := bF BK340.out 1; have hfz19_2 := bF BK340.out 2))
     go_meet
     case rel => exact ⟨_, (true), (by first | rfl | (simp; done) | (simp [*]; done)), H', ⟨by first | omega | exact Nat.le_refl _⟩, ⟨by (with_reducible repeat (first | refine bN ?_ _ | refine bD ?_ | refine bA ?_ _)); exact BK340.out⟩, ⟨by (with_reducible repeat (first | refine bN ?_ _ | refine bD ?_ | refine bA ?_ _)); exact BK341.out⟩, ⟨by (with_reducible repeat (first | refine bN ?_ _ | refine bD ?_ | refine bA ?_ _)); exact BK342.out⟩, ⟨by repeat (first | (with_reducible first | exact HB.out | apply lA | apply lN | apply lD | refine lS ?_ GE340.out | refine lS ?_ GE341.out | refine lS ?_ GE342.out) | exact HB.out)⟩⟩
    ·rw [if_neg c11] at H
     have c11b0 : (a0_0 == 0) = false := beq_eq_false_iff_ne.mpr c11
     have c11b1 : (a0_0 != 0) = true := bne_iff_ne.mpr c11
     (first | rw [c11b0] | (simp only [i64_w, i32_w]; rw [c11b0]) | skip)
     have H' := Aside0.mk H
     clear H
     have hnb20 := NB340_341.out
     have hnc20 := NB341_340.out
     have hnb21 := NB340_342.out
     have hnc21 := NB342_340.out
     have hcz22_0 : w6.cell? ⟨gb340, 0, none⟩ = some (.int .i64 a0_0) := (bC BK340.out 0).trans rfl
     have hcz22_1 : w6.cell? ⟨gb340, 1, none⟩ = some (.int .i64 a0_1) := (bC BK340.out 1).trans rfl
     have hcz22_2 : w6.cell? ⟨gb340, 2, none⟩ = some (.int .i64 a0_2) := (bC BK340.out 2).trans rfl
     have hfz22_0 := bF BK340.out 0
     have hfz22_1 := bF BK340.out 1
     have hfz22_2 := bF BK340.out 2
     go_wp2_with (first | ((with_reducible refine gate_callee (f := 29) rfl ?_); refine goesL_ (some 8) rfl rfl Try.func29 (by kernel_rfl) rfl #[.agg #[.int .i64 a0_0, .int .i64 a0_1, .int .i64 a0_2]] rfl (by (try simp only [List.map_toArray, List.map_cons, List.map_nil]); first | done | rfl | (simp only [List.length_drop, List.length_take]; rfl)) ?_; (with_reducible refine (hornbeamref15_May.calls k a0_0 a0_1 a0_2 true _ A7.out).mono ?_); rintro e w23 ⟨rfl, hb⟩; refine ⟨_, rfl, ?_⟩; have n0_ := Aside0.mk (bB (g := gb340) (o := .cells #[.int .i64 a0_0, .int .i64 a0_1, .int .i64 a0_2] 26 (0, 0)) (by (with_reducible repeat (first | refine bN ?_ _ | refine bD ?_ | refine bA ?_ _)); exact BK340.out) hb); have n1_ := Aside0.mk (bB (g := gb341) (o := .cells #[.int .i64 a1_0, .int .i64 a1_1, .int .i64 a1_2] 26 (0, 0)) (by (with_reducible repeat (first | refine bN ?_ _ | refine bD ?_ | refine bA ?_ _)); exact BK341.out) hb); have n2_ := Aside0.mk (bB (g := gb342) (o := .cells #[.int .u64 0, .int .u64 0, .int .u64 0] 36 (0, 0)) (by (with_reducible repeat (first | refine bN ?_ _ | refine bD ?_ | refine bA ?_ _)); exact BK342.out) hb); have n3_ := Aside0.mk (lP (by repeat (first | (with_reducible first | exact HB.out | apply lA | apply lN | apply lD | refine lS ?_ GE340.out | refine lS ?_ GE341.out | refine lS ?_ GE342.out) | exact HB.out)) hb); clear BK340; clear BK341; clear BK342; clear HB; have BK340 := n0_; have BK341 := n1_; have BK342 := n2_; have HB := n3_; clear n0_ n1_ n2_ n3_; (try clear hb); (try clear hb2); (try clear hk); (try clear hi); have hnb24 := NB341_342.out; have hnc24 := NB342_341.out; have hcz25_0 : w23.cell? ⟨gb341, 0, none⟩ = some (.int .i64 a1_0) := (bC BK341.out 0).trans rfl; have hcz25_1 : w23.cell? ⟨gb341, 1, none⟩ = some (.int .i64 a1_1) := (bC BK341.out 1).trans rfl; have hcz25_2 : w23.cell? ⟨gb341, 2, none⟩ = some (.int .i64 a1_2) := (bC BK341.out 2).trans rfl; have hfz25_0 := bF BK341.out 0; have hfz25_1 := bF BK341.out 1; have hfz25_2 := bF BK341.out 2) | (go_at_call 29; (with_reducible refine (hornbeamref15_May.calls k a1_0 a1_1 a1_2 true _ A9.out).mono ?_); rintro e w26 ⟨rfl, hb⟩; have n0_ := Aside0.mk (bB (g := gb340) (o := .cells #[.int .i64 a0_0, .int .i64 a0_1, .int .i64 a0_2] 26 (0, 0)) (by (with_reducible repeat (first | refine bN ?_ _ | refine bD ?_ | refine bA ?_ _)); exact BK340.out) hb); have n1_ := Aside0.mk (bB (g := gb341) (o := .cells #[.int .i64 a1_0, .int .i64 a1_1, .int .i64 a1_2] 26 (0, 0)) (by (with_reducible repeat (first | refine bN ?_ _ | refine bD ?_ | refine bA ?_ _)); exact BK341.out) hb); have n2_ := Aside0.mk (bB (g := gb342) (o := .cells #[.int .u64 0, .int .u64 0, .int .u64 0] 36 (0, 0)) (by (with_reducible repeat (first | refine bN ?_ _ | refine bD ?_ | refine bA ?_ _)); exact BK342.out) hb); have n3_ := Aside0.mk (lP (by repeat (first | (with_reducible first | exact HB.out | apply lA | apply lN | apply lD | refine lS ?_ GE340.out | refine lS ?_ GE341.out | refine lS ?_ GE342.out) | exact HB.out)) hb); clear BK340; clear BK341; clear BK342; clear HB; have BK340 := n0_; have BK341 := n1_; have BK342 := n2_; have HB := n3_; clear n0_ n1_ n2_ n3_; (try clear hb); (try clear hb2); (try clear hk); (try clear hi); have hcz27_0 : w26.cell? ⟨gb340, 0, none⟩ = some (.int .i64 a0_0) := (bC BK340.out 0).trans rfl; have hcz27_1 : w26.cell? ⟨gb340, 1, none⟩ = some (.int .i64 a0_1) := (bC BK340.out 1).trans rfl; have hcz27_2 : w26.cell? ⟨gb340, 2, none⟩ = some (.int .i64 a0_2) := (bC BK340.out 2).trans rfl; have hfz27_0 := bF BK340.out 0; have hfz27_1 := bF BK340.out 1; have hfz27_2 := bF BK340.out 2; have hcz28_0 : w26.cell? ⟨gb341, 0, none⟩ = some (.int .i64 a1_0) := (bC BK341.out 0).trans rfl; have hcz28_1 : w26.cell? ⟨gb341, 1, none⟩ = some (.int .i64 a1_1) := (bC BK341.out 1).trans rfl; have hcz28_2 : w26.cell? ⟨gb341, 2, none⟩ = some (.int .i64 a1_2) := (bC BK341.out 2).trans rfl; have hfz28_0 := bF BK341.out 0; have hfz28_1 := bF BK341.out 1; have hfz28_2 := bF BK341.out 2))
     go_meet
     case rel => exact ⟨_, ((a1_0 == 0)), (by first | rfl | (simp; done) | (simp [*]; done)), H', ⟨by first | omega | exact Nat.le_refl _⟩, ⟨by (with_reducible repeat (first | refine bN ?_ _ | refine bD ?_ | refine bA ?_ _)); exact BK340.out⟩, ⟨by (with_reducible repeat (first | refine bN ?_ _ | refine bD ?_ | refine bA ?_ _)); exact BK341.out⟩, ⟨by (with_reducible repeat (first | refine bN ?_ _ | refine bD ?_ | refine bA ?_ _)); exact BK342.out⟩, ⟨by repeat (first | (with_reducible first | exact HB.out | apply lA | apply lN | apply lD | refine lS ?_ GE340.out | refine lS ?_ GE341.out | refine lS ?_ GE342.out) | exact HB.out)⟩⟩
   ·replace c10 := Bool.eq_false_iff.mpr c10
    subst c10
    have H1 : (hornbeamref15_Score.j0 k true a0_0 a0_1 a0_2 a1_0 a1_1 a1_2) = some (r1, r2, r3) := by rw [if_neg (show ¬ (false = true) by decide)] at H; exact H
    clear H
    have H := H1
    clear H1
    have H' := Aside0.mk H
    clear H
    have hnb29 := NB340_341.out
    have hnc29 := NB341_340.out
    have hnb30 := NB340_342.out
    have hnc30 := NB342_340.out
    have hcz31_0 : w6.cell? ⟨gb340, 0, none⟩ = some (.int .i64 a0_0) := (bC BK340.out 0).trans rfl
    have hcz31_1 : w6.cell? ⟨gb340, 1, none⟩ = some (.int .i64 a0_1) := (bC BK340.out 1).trans rfl
    have hcz31_2 : w6.cell? ⟨gb340, 2, none⟩ = some (.int .i64 a0_2) := (bC BK340.out 2).trans rfl
    have hfz31_0 := bF BK340.out 0
    have hfz31_1 := bF BK340.out 1
    have hfz31_2 := bF BK340.out 2
    go_wp2_with (first | ((with_reducible refine gate_callee (f := 29) rfl ?_); refine goesL_ (some 8) rfl rfl Try.func29 (by kernel_rfl) rfl #[.agg #[.int .i64 a0_0, .int .i64 a0_1, .int .i64 a0_2]] rfl (by (try simp only [List.map_toArray, List.map_cons, List.map_nil]); first | done | rfl | (simp only [List.length_drop, List.length_take]; rfl)) ?_; (with_reducible refine (hornbeamref15_May.calls k a0_0 a0_1 a0_2 true _ A7.out).mono ?_); rintro e w32 ⟨rfl, hb⟩; refine ⟨_, rfl, ?_⟩; have n0_ := Aside0.mk (bB (g := gb340) (o := .cells #[.int .i64 a0_0, .int .i64 a0_1, .int .i64 a0_2] 26 (0, 0)) (by (with_reducible repeat (first | refine bN ?_ _ | refine bD ?_ | refine bA ?_ _)); exact BK340.out) hb); have n1_ := Aside0.mk (bB (g := gb341) (o := .cells #[.int .i64 a1_0, .int .i64 a1_1, .int .i64 a1_2] 26 (0, 0)) (by (with_reducible repeat (first | refine bN ?_ _ | refine bD ?_ | refine bA ?_ _)); exact BK341.out) hb); have n2_ := Aside0.mk (bB (g := gb342) (o := .cells #[.int .u64 0, .int .u64 0, .int .u64 0] 36 (0, 0)) (by (with_reducible repeat (first | refine bN ?_ _ | refine bD ?_ | refine bA ?_ _)); exact BK342.out) hb); have n3_ := Aside0.mk (lP (by repeat (first | (with_reducible first | exact HB.out | apply lA | apply lN | apply lD | refine lS ?_ GE340.out | refine lS ?_ GE341.out | refine lS ?_ GE342.out) | exact HB.out)) hb); clear BK340; clear BK341; clear BK342; clear HB; have BK340 := n0_; have BK341 := n1_; have BK342 := n2_; have HB := n3_; clear n0_ n1_ n2_ n3_; (try clear hb); (try clear hb2); (try clear hk); (try clear hi); have hnb33 := NB341_342.out; have hnc33 := NB342_341.out; have hcz34_0 : w32.cell? ⟨gb341, 0, none⟩ = some (.int .i64 a1_0) := (bC BK341.out 0).trans rfl; have hcz34_1 : w32.cell? ⟨gb341, 1, none⟩ = some (.int .i64 a1_1) := (bC BK341.out 1).trans rfl; have hcz34_2 : w32.cell? ⟨gb341, 2, none⟩ = some (.int .i64 a1_2) := (bC BK341.out 2).trans rfl; have hfz34_0 := bF BK341.out 0; have hfz34_1 := bF BK341.out 1; have hfz34_2 := bF BK341.out 2) | (go_at_call 29; (with_reducible refine (hornbeamref15_May.calls k a1_0 a1_1 a1_2 false _ A9.out).mono ?_); rintro e w35 ⟨rfl, hb⟩; have n0_ := Aside0.mk (bB (g := gb340) (o := .cells #[.int .i64 a0_0, .int .i64 a0_1, .int .i64 a0_2] 26 (0, 0)) (by (with_reducible repeat (first | refine bN ?_ _ | refine bD ?_ | refine bA ?_ _)); exact BK340.out) hb); have n1_ := Aside0.mk (bB (g := gb341) (o := .cells #[.int .i64 a1_0, .int .i64 a1_1, .int .i64 a1_2] 26 (0, 0)) (by (with_reducible repeat (first | refine bN ?_ _ | refine bD ?_ | refine bA ?_ _)); exact BK341.out) hb); have n2_ := Aside0.mk (bB (g := gb342) (o := .cells #[.int .u64 0, .int .u64 0, .int .u64 0] 36 (0, 0)) (by (with_reducible repeat (first | refine bN ?_ _ | refine bD ?_ | refine bA ?_ _)); exact BK342.out) hb); have n3_ := Aside0.mk (lP (by repeat (first | (with_reducible first | exact HB.out | apply lA | apply lN | apply lD | refine lS ?_ GE340.out | refine lS ?_ GE341.out | refine lS ?_ GE342.out) | exact HB.out)) hb); clear BK340; clear BK341; clear BK342; clear HB; have BK340 := n0_; have BK341 := n1_; have BK342 := n2_; have HB := n3_; clear n0_ n1_ n2_ n3_; (try clear hb); (try clear hb2); (try clear hk); (try clear hi)))
    go_meet
    case rel => exact ⟨_, (true), (by first | rfl | (simp; done) | (simp [*]; done)), H', ⟨by first | omega | exact Nat.le_refl _⟩, ⟨by (with_reducible repeat (first | refine bN ?_ _ | refine bD ?_ | refine bA ?_ _)); exact BK340.out⟩, ⟨by (with_reducible repeat (first | refine bN ?_ _ | refine bD ?_ | refine bA ?_ _)); exact BK341.out⟩, ⟨by (with_reducible repeat (first | refine bN ?_ _ | refine bD ?_ | refine bA ?_ _)); exact BK342.out⟩, ⟨by repeat (first | (with_reducible first | exact HB.out | apply lA | apply lN | apply lD | refine lS ?_ GE340.out | refine lS ?_ GE341.out | refine lS ?_ GE342.out) | exact HB.out)⟩⟩
  ·replace c8 := Bool.eq_false_iff.mpr c8
   subst c8
   have H1 : (hornbeamref15_Score.j0 k true a0_0 a0_1 a0_2 a1_0 a1_1 a1_2) = some (r1, r2, r3) := by rw [if_neg (show ¬ (false = true) by decide)] at H; exact H
   clear H
   have H := H1
   clear H1
   have H' := Aside0.mk H
   clear H
   have hnb36 := NB340_341.out
   have hnc36 := NB341_340.out
   have hnb37 := NB340_342.out
   have hnc37 := NB342_340.out
   have hcz38_0 : w6.cell? ⟨gb340, 0, none⟩ = some (.int .i64 a0_0) := (bC BK340.out 0).trans rfl
   have hcz38_1 : w6.cell? ⟨gb340, 1, none⟩ = some (.int .i64 a0_1) := (bC BK340.out 1).trans rfl
   have hcz38_2 : w6.cell? ⟨gb340, 2, none⟩ = some (.int .i64 a0_2) := (bC BK340.out 2).trans rfl
   have hfz38_0 := bF BK340.out 0
   have hfz38_1 := bF BK340.out 1
   have hfz38_2 := bF BK340.out 2
   go_wp2_with (first | ((with_reducible refine gate_callee (f := 29) rfl ?_); refine goesL_ (some 8) rfl rfl Try.func29 (by kernel_rfl) rfl #[.agg #[.int .i64 a0_0, .int .i64 a0_1, .int .i64 a0_2]] rfl (by (try simp only [List.map_toArray, List.map_cons, List.map_nil]); first | done | rfl | (simp only [List.length_drop, List.length_take]; rfl)) ?_; (with_reducible refine (hornbeamref15_May.calls k a0_0 a0_1 a0_2 false _ A7.out).mono ?_); rintro e w39 ⟨rfl, hb⟩; refine ⟨_, rfl, ?_⟩; have n0_ := Aside0.mk (bB (g := gb340) (o := .cells #[.int .i64 a0_0, .int .i64 a0_1, .int .i64 a0_2] 26 (0, 0)) (by (with_reducible repeat (first | refine bN ?_ _ | refine bD ?_ | refine bA ?_ _)); exact BK340.out) hb); have n1_ := Aside0.mk (bB (g := gb341) (o := .cells #[.int .i64 a1_0, .int .i64 a1_1, .int .i64 a1_2] 26 (0, 0)) (by (with_reducible repeat (first | refine bN ?_ _ | refine bD ?_ | refine bA ?_ _)); exact BK341.out) hb); have n2_ := Aside0.mk (bB (g := gb342) (o := .cells #[.int .u64 0, .int .u64 0, .int .u64 0] 36 (0, 0)) (by (with_reducible repeat (first | refine bN ?_ _ | refine bD ?_ | refine bA ?_ _)); exact BK342.out) hb); have n3_ := Aside0.mk (lP (by repeat (first | (with_reducible first | exact HB.out | apply lA | apply lN | apply lD | refine lS ?_ GE340.out | refine lS ?_ GE341.out | refine lS ?_ GE342.out) | exact HB.out)) hb); clear BK340; clear BK341; clear BK342; clear HB; have BK340 := n0_; have BK341 := n1_; have BK342 := n2_; have HB := n3_; clear n0_ n1_ n2_ n3_; (try clear hb); (try clear hb2); (try clear hk); (try clear hi)))
   go_meet
   case rel => exact ⟨_, (true), (by first | rfl | (simp; done) | (simp [*]; done)), H', ⟨by first | omega | exact Nat.le_refl _⟩, ⟨by (with_reducible repeat (first | refine bN ?_ _ | refine bD ?_ | refine bA ?_ _)); exact BK340.out⟩, ⟨by (with_reducible repeat (first | refine bN ?_ _ | refine bD ?_ | refine bA ?_ _)); exact BK341.out⟩, ⟨by (with_reducible repeat (first | refine bN ?_ _ | refine bD ?_ | refine bA ?_ _)); exact BK342.out⟩, ⟨by repeat (first | (with_reducible first | exact HB.out | apply lA | apply lN | apply lD | refine lS ?_ GE340.out | refine lS ?_ GE341.out | refine lS ?_ GE342.out) | exact HB.out)⟩⟩
 case rest =>
  clear HC3
  try clear c1
  try clear c2
  try clear p2
  try clear c3
  try clear c8
  try clear c10
  try clear c11
  try clear c11b0
  try clear c11b1
  try clear c12
  try clear c13
  try clear c16
  try clear c20
  try clear c21
  try clear c24
  try clear c29
  try clear c30
  try clear c31
  try clear c33
  try clear c36
  try clear c37
  try clear hcz14_0
  try clear hcz14_1
  try clear hcz14_2
  try clear hcz17_0
  try clear hcz17_1
  try clear hcz17_2
  try clear hcz19_0
  try clear hcz19_1
  try clear hcz19_2
  try clear hcz22_0
  try clear hcz22_1
  try clear hcz22_2
  try clear hcz25_0
  try clear hcz25_1
  try clear hcz25_2
  try clear hcz27_0
  try clear hcz27_1
  try clear hcz27_2
  try clear hcz28_0
  try clear hcz28_1
  try clear hcz28_2
  try clear hcz31_0
  try clear hcz31_1
  try clear hcz31_2
  try clear hcz34_0
  try clear hcz34_1
  try clear hcz34_2
  try clear hcz38_0
  try clear hcz38_1
  try clear hcz38_2
  try clear hfz14_0
  try clear hfz14_1
  try clear hfz14_2
  try clear hfz17_0
  try clear hfz17_1
  try clear hfz17_2
  try clear hfz19_0
  try clear hfz19_1
  try clear hfz19_2
  try clear hfz22_0
  try clear hfz22_1
  try clear hfz22_2
  try clear hfz25_0
  try clear hfz25_1
  try clear hfz25_2
  try clear hfz27_0
  try clear hfz27_1
  try clear hfz27_2
  try clear hfz28_0
  try clear hfz28_1
  try clear hfz28_2
  try clear hfz31_0
  try clear hfz31_1
  try clear hfz31_2
  try clear hfz34_0
  try clear hfz34_1
  try clear hfz34_2
  try clear hfz38_0
  try clear hfz38_1
  try clear hfz38_2
  obtain ⟨kq, x24_2, rfl, HA, HJ2, BK340, BK341, BK342, HB⟩ := hcut
  cases kq with
  | zero => exact absurd HA.out (by simp [hornbeamref15_Score.j0])
  | succ kj2 =>
   have H := HA.out
   clear HA
   simp only [hornbeamref15_Score.j0] at H
   by_cases c40 : x24_2 = true
   ·subst c40
    have H1 : (some (0, 0, 0)) = some (r1, r2, r3) := by rw [if_pos rfl] at H; exact H
    clear H
    have H := H1
    clear H1
    simp only [Option.some.injEq, Prod.mk.injEq] at H
    obtain ⟨rfl, rfl, rfl⟩ := H
    have hnb41 := NB342_340.out
    have hnc41 := NB340_342.out
    have hnb42 := NB342_341.out
    have hnc42 := NB341_342.out
    have hcz43_0 : wc.cell? ⟨gb342, 0, none⟩ = some (.int .u64 0) := (bC BK342.out 0).trans rfl
    have hcz43_1 : wc.cell? ⟨gb342, 1, none⟩ = some (.int .u64 0) := (bC BK342.out 1).trans rfl
    have hcz43_2 : wc.cell? ⟨gb342, 2, none⟩ = some (.int .u64 0) := (bC BK342.out 2).trans rfl
    have hfz43_0 := bF BK342.out 0
    have hfz43_1 := bF BK342.out 1
    have hfz43_2 := bF BK342.out 2
    go_wp2
    refine bodyPost_ret (results_cell_row rfl _ _ gb342 36 #[.int .u64 0, .int .u64 0, .int .u64 0] (0, 0) _ rfl (by (with_reducible repeat (first | refine bN ?_ _ | refine bD ?_ | refine bA ?_ _)); refine blk_put (cs := #[.int .u64 0, .int .u64 0, .int .u64 0]) ?_ 2 _ rfl; (with_reducible repeat (first | refine bN ?_ _ | refine bD ?_ | refine bA ?_ _)); refine blk_put (cs := #[.int .u64 0, .int .u64 0, .int .u64 0]) ?_ 1 _ rfl; (with_reducible repeat (first | refine bN ?_ _ | refine bD ?_ | refine bA ?_ _)); refine blk_put (cs := #[.int .u64 0, .int .u64 0, .int .u64 0]) ?_ 0 _ rfl; (with_reducible repeat (first | refine bN ?_ _ | refine bD ?_ | refine bA ?_ _)); exact BK342.out) Try.underlying36 rfl (by kernel_rfl)) rfl ?_
    exact ⟨by first | rfl | (simp [errW_none, errW_some] <;> rfl) | (simp [*, errW_none, errW_some] <;> rfl), by repeat (first | (with_reducible first | exact HB.out | apply lA | apply lN | apply lD | refine lS ?_ GE340.out | refine lS ?_ GE341.out | refine lS ?_ GE342.out) | exact HB.out)⟩
   ·replace c40 := Bool.eq_false_iff.mpr c40
    subst c40
    have H1 : ((hornbeamref15_square.f kj2 a0_1).bind fun bt345 => ((hornbeamref15_times.f kj2 bt345.1 bt345.2 a1_0).bind fun bt347 => ((hornbeamref15_square.f kj2 a1_1).bind fun bt349 => ((hornbeamref15_times.f kj2 bt349.1 bt349.2 a0_0).bind fun bt351 => ((hornbeamref04_Add.f kj2 bt347.1 bt347.2 bt351.1 bt351.2).bind fun bt353 => (some (bt353.1, bt353.2.1, IntKind.u64.wrap (wrap64 (a0_0 * a1_0))))))))) = some (r1, r2, r3) := by rw [if_neg (show ¬ (false = true) by decide)] at H; exact H
    clear H
    have H := H1
    clear H1
    replace H := Option.bind_eq_some_iff.mp H
    obtain ⟨⟨t345, t346⟩, A440, H⟩ := H
    replace H : ((hornbeamref15_times.f kj2 t345 t346 a1_0).bind fun bt347 => ((hornbeamref15_square.f kj2 a1_1).bind fun bt349 => ((hornbeamref15_times.f kj2 bt349.1 bt349.2 a0_0).bind fun bt351 => ((hornbeamref04_Add.f kj2 bt347.1 bt347.2 bt351.1 bt351.2).bind fun bt353 => (some (bt353.1, bt353.2.1, IntKind.u64.wrap (wrap64 (a0_0 * a1_0)))))))) = some (r1, r2, r3) := H
    have A44 := Aside0.mk A440
    clear A440
    replace H := Option.bind_eq_some_iff.mp H
    obtain ⟨⟨t347, t348⟩, A450, H⟩ := H
    replace H : ((hornbeamref15_square.f kj2 a1_1).bind fun bt349 => ((hornbeamref15_times.f kj2 bt349.1 bt349.2 a0_0).bind fun bt351 => ((hornbeamref04_Add.f kj2 t347 t348 bt351.1 bt351.2).bind fun bt353 => (some (bt353.1, bt353.2.1, IntKind.u64.wrap (wrap64 (a0_0 * a1_0))))))) = some (r1, r2, r3) := H
    have A45 := Aside0.mk A450
    clear A450
    replace H := Option.bind_eq_some_iff.mp H
    obtain ⟨⟨t349, t350⟩, A460, H⟩ := H
    replace H : ((hornbeamref15_times.f kj2 t349 t350 a0_0).bind fun bt351 => ((hornbeamref04_Add.f kj2 t347 t348 bt351.1 bt351.2).bind fun bt353 => (some (bt353.1, bt353.2.1, IntKind.u64.wrap (wrap64 (a0_0 * a1_0)))))) = some (r1, r2, r3) := H
    have A46 := Aside0.mk A460
    clear A460
    replace H := Option.bind_eq_some_iff.mp H
    obtain ⟨⟨t351, t352⟩, A470, H⟩ := H
    replace H : ((hornbeamref04_Add.f kj2 t347 t348 t351 t352).bind fun bt353 => (some (bt353.1, bt353.2.1, IntKind.u64.wrap (wrap64 (a0_0 * a1_0))))) = some (r1, r2, r3) := H
    have A47 := Aside0.mk A470
    clear A470
    replace H := Option.bind_eq_some_iff.mp H
    obtain ⟨⟨t353, t354, t355⟩, A480, H⟩ := H
    replace H : (some (t353, t354, IntKind.u64.wrap (wrap64 (a0_0 * a1_0)))) = some (r1, r2, r3) := H
    have A48 := Aside0.mk A480
    clear A480
    simp only [Option.some.injEq, Prod.mk.injEq] at H
    obtain ⟨rfl, rfl, rfl⟩ := H
    try go_wp2
    have n0_ := Aside0.mk (bD BK340.out)
    have n1_ := Aside0.mk (bD BK341.out)
    have n2_ := Aside0.mk (bD BK342.out)
    have n3_ := Aside0.mk (lD HB.out)
    clear BK340 BK341 BK342 HB
    have BK340 := n0_; have BK341 := n1_; have BK342 := n2_; have HB := n3_
    clear n0_ n1_ n2_ n3_
    refine start_ (n := 19) (S := fun w' => w'.cell? ⟨gb340, 0, none⟩ = some (.int .i64 a0_0) ∧ w'.cell? ⟨gb340, 1, none⟩ = some (.int .i64 a0_1) ∧ w'.cell? ⟨gb340, 2, none⟩ = some (.int .i64 a0_2) ∧ w'.cell? ⟨gb341, 0, none⟩ = some (.int .i64 a1_0) ∧ w'.cell? ⟨gb341, 1, none⟩ = some (.int .i64 a1_1) ∧ w'.cell? ⟨gb341, 2, none⟩ = some (.int .i64 a1_2)) (ds := []) #[false, false, false, false, false, false, false, false, false, false, false, false, false, false, false, false, false, false, false] (by kernel_rfl) rfl rfl ⟨(bC BK340.out 0).trans rfl, (bC BK340.out 1).trans rfl, (bC BK340.out 2).trans rfl, (bC BK341.out 0).trans rfl, (bC BK341.out 1).trans rfl, (bC BK341.out 2).trans rfl⟩ (fun hHeld => ?_); refine with_tabW hornbeamref15_Score.tab3 hornbeamref15_Score.bits3 (fun HT_ HW_ => ?_)
    generalize wc.drew = w49 at BK340 BK341 BK342 HB hHeld ⊢
    refine pure_ (i := 0) (N := some 27) (v := ?_) (a' := ?_) #[true, false, false, false, false, false, false, false, false, false, false, false, false, false, false, false, false, false, false] rfl rfl (any_of HT_.out (by kernel_rfl)) (fun _ _ _ h => h) (Or.inl ⟨by rfl, ?_⟩) ?_ ?_
    rotate_left
    ·intro w'
     go_simp
     with_reducible rfl
    rotate_left
    ·simp only [Act.put, List.setIfInBounds_toArray, List.set_cons_zero, List.set_cons_succ, i64_w, i32_w]
     rfl
    refine pure_ (i := 3) (N := some 30) (v := ?_) (a' := ?_) #[true, false, false, true, false, false, false, false, false, false, false, false, false, false, false, false, false, false, false] rfl rfl (any_of HT_.out (by kernel_rfl)) (fun _ _ _ h => h) (Or.inl ⟨by rfl, ?_⟩) ?_ ?_
    rotate_left
    ·intro w'
     go_simp
     with_reducible rfl
    rotate_left
    ·simp only [Act.put, List.setIfInBounds_toArray, List.set_cons_zero, List.set_cons_succ, i64_w, i32_w]
     rfl
    refine pure_ (i := 6) (N := some 33) (v := ?_) (a' := ?_) #[true, false, false, true, false, false, true, false, false, false, false, false, false, false, false, false, false, false, false] rfl rfl (any_of HT_.out (by kernel_rfl)) (fun _ _ _ h => h) (Or.inl ⟨by rfl, ?_⟩) ?_ ?_
    rotate_left
    ·intro w'
     go_simp
     with_reducible rfl
    rotate_left
    ·simp only [Act.put, List.setIfInBounds_toArray, List.set_cons_zero, List.set_cons_succ, i64_w, i32_w]
     rfl
    refine pure_ (i := 9) (N := some 36) (v := ?_) (a' := ?_) #[true, false, false, true, false, false, true, false, false, true, false, false, false, false, false, false, false, false, false] rfl rfl (any_of HT_.out (by kernel_rfl)) (fun _ _ _ h => h) (Or.inl ⟨by rfl, ?_⟩) ?_ ?_
    rotate_left
    ·intro w'
     go_simp
     with_reducible rfl
    rotate_left
    ·simp only [Act.put, List.setIfInBounds_toArray, List.set_cons_zero, List.set_cons_succ, i64_w, i32_w]
     rfl
    refine take_ (i := 1) (N := some 28) (v := ?_) (a' := ?_) #[true, true, false, true, false, false, true, false, false, true, false, false, false, false, false, false, false, false, false] rfl rfl (take_ofW HT_.out HW_.out (by kernel_rfl)) (fun _ _ _ h => h) (Or.inl ⟨by rfl, ?_⟩) hHeld ?_ ?_
    rotate_left
    ·rintro w' ⟨s0, s1, s2, s3, s4, s5⟩
     go_simp
     with_reducible rfl
    rotate_left
    ·simp only [Act.put, List.setIfInBounds_toArray, List.set_cons_zero, List.set_cons_succ, i64_w, i32_w]
     rfl
    refine take_ (i := 4) (N := some 31) (v := ?_) (a' := ?_) #[true, true, false, true, true, false, true, false, false, true, false, false, false, false, false, false, false, false, false] rfl rfl (take_ofW HT_.out HW_.out (by kernel_rfl)) (fun _ _ _ h => h) (Or.inl ⟨by rfl, ?_⟩) hHeld ?_ ?_
    rotate_left
    ·rintro w' ⟨s0, s1, s2, s3, s4, s5⟩
     go_simp
     with_reducible rfl
    rotate_left
    ·simp only [Act.put, List.setIfInBounds_toArray, List.set_cons_zero, List.set_cons_succ, i64_w, i32_w]
     rfl
    refine take_ (i := 7) (N := some 34) (v := ?_) (a' := ?_) #[true, true, false, true, true, false, true, true, false, true, false, false, false, false, false, false, false, false, false] rfl rfl (take_ofW HT_.out HW_.out (by kernel_rfl)) (fun _ _ _ h => h) (Or.inl ⟨by rfl, ?_⟩) hHeld ?_ ?_
    rotate_left
    ·rintro w' ⟨s0, s1, s2, s3, s4, s5⟩
     go_simp
     with_reducible rfl
    rotate_left
    ·simp only [Act.put, List.setIfInBounds_toArray, List.set_cons_zero, List.set_cons_succ, i64_w, i32_w]
     rfl
    refine take_ (i := 10) (N := some 37) (v := ?_) (a' := ?_) #[true, true, false, true, true, false, true, true, false, true, true, false, false, false, false, false, false, false, false] rfl rfl (take_ofW HT_.out HW_.out (by kernel_rfl)) (fun _ _ _ h => h) (Or.inl ⟨by rfl, ?_⟩) hHeld ?_ ?_
    rotate_left
    ·rintro w' ⟨s0, s1, s2, s3, s4, s5⟩
     go_simp
     with_reducible rfl
    rotate_left
    ·simp only [Act.put, List.setIfInBounds_toArray, List.set_cons_zero, List.set_cons_succ, i64_w, i32_w]
     rfl
    refine join_ (σ := Nat) 2 #[true, true, true, true, true, true, true, true, true, true, true, true, true, true, true, true, true, false, false] (fun s_ => [(29, .agg #[.int .u64 t345, .int .u64 t346]), (32, .agg #[.int .u64 t347, .int .u64 t348]), (35, .agg #[.int .u64 t349, .int .u64 t350]), (38, .agg #[.int .u64 t351, .int .u64 t352]), (39, .tuple #[.agg #[.int .u64 t353, .int .u64 t354], .int .i64 t355]), (5, .pointer (some ⟨s_, 0, none⟩)), (26, .tuple #[.agg #[.int .u64 t353, .int .u64 t354], .int .i64 t355]), (40, .agg #[.int .u64 t353, .int .u64 t354]), (41, .int .i64 t355)]) (fun s_ w' => (w'.cell? ⟨gb340, 0, none⟩ = some (.int .i64 a0_0) ∧ w'.cell? ⟨gb340, 1, none⟩ = some (.int .i64 a0_1) ∧ w'.cell? ⟨gb340, 2, none⟩ = some (.int .i64 a0_2) ∧ w'.cell? ⟨gb341, 0, none⟩ = some (.int .i64 a1_0) ∧ w'.cell? ⟨gb341, 1, none⟩ = some (.int .i64 a1_1) ∧ w'.cell? ⟨gb341, 2, none⟩ = some (.int .i64 a1_2)) ∧ (w'.heap[gb340]? = some (.cells #[.int .i64 a0_0, .int .i64 a0_1, .int .i64 a0_2] 26 (0, 0))) ∧ (w'.heap[gb341]? = some (.cells #[.int .i64 a1_0, .int .i64 a1_1, .int .i64 a1_2] 26 (0, 0))) ∧ (w'.heap[gb342]? = some (.cells #[.int .u64 0, .int .u64 0, .int .u64 0] 36 (0, 0))) ∧ (w'.heap[s_]? = some (.cells #[.int .u64 0, .int .u64 0] 34 (0, 0))) ∧ (w.heap.size ≤ s_) ∧ (w.heap.size ≤ s_) ∧ (gb340 ≠ s_) ∧ (s_ ≠ gb340) ∧ (gb341 ≠ s_) ∧ (s_ ≠ gb341) ∧ (gb342 ≠ s_) ∧ (s_ ≠ gb342) ∧ (Below w.heap.size w w')) ?_ ?_
    rotate_left
    ·intro hJ2_5_8_11_12_16
     refine join_ (σ := Unit) 3 #[true, true, true, true, true, true, true, true, true, true, true, true, true, true, true, true, false, false, false] (fun s_ => [(29, .agg #[.int .u64 t345, .int .u64 t346]), (32, .agg #[.int .u64 t347, .int .u64 t348]), (35, .agg #[.int .u64 t349, .int .u64 t350]), (38, .agg #[.int .u64 t351, .int .u64 t352]), (39, .tuple #[.agg #[.int .u64 t353, .int .u64 t354], .int .i64 t355]), (26, .tuple #[.agg #[.int .u64 t353, .int .u64 t354], .int .i64 t355]), (40, .agg #[.int .u64 t353, .int .u64 t354]), (41, .int .i64 t355)]) (fun s_ w' => (w'.cell? ⟨gb340, 0, none⟩ = some (.int .i64 a0_0) ∧ w'.cell? ⟨gb340, 1, none⟩ = some (.int .i64 a0_1) ∧ w'.cell? ⟨gb340, 2, none⟩ = some (.int .i64 a0_2) ∧ w'.cell? ⟨gb341, 0, none⟩ = some (.int .i64 a1_0) ∧ w'.cell? ⟨gb341, 1, none⟩ = some (.int .i64 a1_1) ∧ w'.cell? ⟨gb341, 2, none⟩ = some (.int .i64 a1_2)) ∧ (w'.heap[gb340]? = some (.cells #[.int .i64 a0_0, .int .i64 a0_1, .int .i64 a0_2] 26 (0, 0))) ∧ (w'.heap[gb341]? = some (.cells #[.int .i64 a1_0, .int .i64 a1_1, .int .i64 a1_2] 26 (0, 0))) ∧ (w'.heap[gb342]? = some (.cells #[.int .u64 0, .int .u64 0, .int .u64 0] 36 (0, 0))) ∧ (Below w.heap.size w w')) ?_ ?_
     rotate_left
     ·intro hJ2_5_8_11_12
      refine join_ (σ := Nat) 6 #[true, true, true, true, true, true, true, true, true, true, true, true, false, false, false, false, true, false, false] (fun s_ => [(29, .agg #[.int .u64 t345, .int .u64 t346]), (32, .agg #[.int .u64 t347, .int .u64 t348]), (35, .agg #[.int .u64 t349, .int .u64 t350]), (38, .agg #[.int .u64 t351, .int .u64 t352]), (5, .pointer (some ⟨s_, 0, none⟩))]) (fun s_ w' => (w'.cell? ⟨gb340, 0, none⟩ = some (.int .i64 a0_0) ∧ w'.cell? ⟨gb340, 1, none⟩ = some (.int .i64 a0_1) ∧ w'.cell? ⟨gb340, 2, none⟩ = some (.int .i64 a0_2) ∧ w'.cell? ⟨gb341, 0, none⟩ = some (.int .i64 a1_0) ∧ w'.cell? ⟨gb341, 1, none⟩ = some (.int .i64 a1_1) ∧ w'.cell? ⟨gb341, 2, none⟩ = some (.int .i64 a1_2)) ∧ (w'.heap[gb340]? = some (.cells #[.int .i64 a0_0, .int .i64 a0_1, .int .i64 a0_2] 26 (0, 0))) ∧ (w'.heap[gb341]? = some (.cells #[.int .i64 a1_0, .int .i64 a1_1, .int .i64 a1_2] 26 (0, 0))) ∧ (w'.heap[gb342]? = some (.cells #[.int .u64 0, .int .u64 0, .int .u64 0] 36 (0, 0))) ∧ (w'.heap[s_]? = some (.cells #[.int .u64 0, .int .u64 0] 34 (0, 0))) ∧ (w.heap.size ≤ s_) ∧ (w.heap.size ≤ s_) ∧ (gb340 ≠ s_) ∧ (s_ ≠ gb340) ∧ (gb341 ≠ s_) ∧ (s_ ≠ gb341) ∧ (gb342 ≠ s_) ∧ (s_ ≠ gb342) ∧ (Below w.heap.size w w')) ?_ ?_
      rotate_left
      ·intro hJ2_5_8_11_16
       refine join_ (σ := Unit) 7 #[true, true, true, true, true, true, true, true, true, true, true, true, false, false, false, false, false, false, false] (fun s_ => [(29, .agg #[.int .u64 t345, .int .u64 t346]), (32, .agg #[.int .u64 t347, .int .u64 t348]), (35, .agg #[.int .u64 t349, .int .u64 t350]), (38, .agg #[.int .u64 t351, .int .u64 t352])]) (fun s_ w' => (w'.cell? ⟨gb340, 0, none⟩ = some (.int .i64 a0_0) ∧ w'.cell? ⟨gb340, 1, none⟩ = some (.int .i64 a0_1) ∧ w'.cell? ⟨gb340, 2, none⟩ = some (.int .i64 a0_2) ∧ w'.cell? ⟨gb341, 0, none⟩ = some (.int .i64 a1_0) ∧ w'.cell? ⟨gb341, 1, none⟩ = some (.int .i64 a1_1) ∧ w'.cell? ⟨gb341, 2, none⟩ = some (.int .i64 a1_2)) ∧ (w'.heap[gb340]? = some (.cells #[.int .i64 a0_0, .int .i64 a0_1, .int .i64 a0_2] 26 (0, 0))) ∧ (w'.heap[gb341]? = some (.cells #[.int .i64 a1_0, .int .i64 a1_1, .int .i64 a1_2] 26 (0, 0))) ∧ (w'.heap[gb342]? = some (.cells #[.int .u64 0, .int .u64 0, .int .u64 0] 36 (0, 0))) ∧ (Below w.heap.size w w')) ?_ ?_
       rotate_left
       ·intro hJ2_5_8_11
        refine join_ (σ := Nat) 7 #[true, true, true, true, true, true, true, true, true, true, true, false, false, false, false, false, true, false, false] (fun s_ => [(29, .agg #[.int .u64 t345, .int .u64 t346]), (32, .agg #[.int .u64 t347, .int .u64 t348]), (35, .agg #[.int .u64 t349, .int .u64 t350]), (5, .pointer (some ⟨s_, 0, none⟩))]) (fun s_ w' => (w'.cell? ⟨gb340, 0, none⟩ = some (.int .i64 a0_0) ∧ w'.cell? ⟨gb340, 1, none⟩ = some (.int .i64 a0_1) ∧ w'.cell? ⟨gb340, 2, none⟩ = some (.int .i64 a0_2) ∧ w'.cell? ⟨gb341, 0, none⟩ = some (.int .i64 a1_0) ∧ w'.cell? ⟨gb341, 1, none⟩ = some (.int .i64 a1_1) ∧ w'.cell? ⟨gb341, 2, none⟩ = some (.int .i64 a1_2)) ∧ (w'.heap[gb340]? = some (.cells #[.int .i64 a0_0, .int .i64 a0_1, .int .i64 a0_2] 26 (0, 0))) ∧ (w'.heap[gb341]? = some (.cells #[.int .i64 a1_0, .int .i64 a1_1, .int .i64 a1_2] 26 (0, 0))) ∧ (w'.heap[gb342]? = some (.cells #[.int .u64 0, .int .u64 0, .int .u64 0] 36 (0, 0))) ∧ (w'.heap[s_]? = some (.cells #[.int .u64 0, .int .u64 0] 34 (0, 0))) ∧ (w.heap.size ≤ s_) ∧ (w.heap.size ≤ s_) ∧ (gb340 ≠ s_) ∧ (s_ ≠ gb340) ∧ (gb341 ≠ s_) ∧ (s_ ≠ gb341) ∧ (gb342 ≠ s_) ∧ (s_ ≠ gb342) ∧ (Below w.heap.size w w')) ?_ ?_
        rotate_left
        ·intro hJ2_5_8_16
         refine join_ (σ := Unit) 8 #[true, true, true, true, true, true, true, true, true, true, true, false, false, false, false, false, false, false, false] (fun s_ => [(29, .agg #[.int .u64 t345, .int .u64 t346]), (32, .agg #[.int .u64 t347, .int .u64 t348]), (35, .agg #[.int .u64 t349, .int .u64 t350])]) (fun s_ w' => (w'.cell? ⟨gb340, 0, none⟩ = some (.int .i64 a0_0) ∧ w'.cell? ⟨gb340, 1, none⟩ = some (.int .i64 a0_1) ∧ w'.cell? ⟨gb340, 2, none⟩ = some (.int .i64 a0_2) ∧ w'.cell? ⟨gb341, 0, none⟩ = some (.int .i64 a1_0) ∧ w'.cell? ⟨gb341, 1, none⟩ = some (.int .i64 a1_1) ∧ w'.cell? ⟨gb341, 2, none⟩ = some (.int .i64 a1_2)) ∧ (w'.heap[gb340]? = some (.cells #[.int .i64 a0_0, .int .i64 a0_1, .int .i64 a0_2] 26 (0, 0))) ∧ (w'.heap[gb341]? = some (.cells #[.int .i64 a1_0, .int .i64 a1_1, .int .i64 a1_2] 26 (0, 0))) ∧ (w'.heap[gb342]? = some (.cells #[.int .u64 0, .int .u64 0, .int .u64 0] 36 (0, 0))) ∧ (Below w.heap.size w w')) ?_ ?_
         rotate_left
         ·intro hJ2_5_8
          refine join_ (σ := Nat) 8 #[true, true, true, true, true, true, true, true, false, true, true, false, false, false, false, false, true, false, false] (fun s_ => [(29, .agg #[.int .u64 t345, .int .u64 t346]), (32, .agg #[.int .u64 t347, .int .u64 t348]), (5, .pointer (some ⟨s_, 0, none⟩))]) (fun s_ w' => (w'.cell? ⟨gb340, 0, none⟩ = some (.int .i64 a0_0) ∧ w'.cell? ⟨gb340, 1, none⟩ = some (.int .i64 a0_1) ∧ w'.cell? ⟨gb340, 2, none⟩ = some (.int .i64 a0_2) ∧ w'.cell? ⟨gb341, 0, none⟩ = some (.int .i64 a1_0) ∧ w'.cell? ⟨gb341, 1, none⟩ = some (.int .i64 a1_1) ∧ w'.cell? ⟨gb341, 2, none⟩ = some (.int .i64 a1_2)) ∧ (w'.heap[gb340]? = some (.cells #[.int .i64 a0_0, .int .i64 a0_1, .int .i64 a0_2] 26 (0, 0))) ∧ (w'.heap[gb341]? = some (.cells #[.int .i64 a1_0, .int .i64 a1_1, .int .i64 a1_2] 26 (0, 0))) ∧ (w'.heap[gb342]? = some (.cells #[.int .u64 0, .int .u64 0, .int .u64 0] 36 (0, 0))) ∧ (w'.heap[s_]? = some (.cells #[.int .u64 0, .int .u64 0] 34 (0, 0))) ∧ (w.heap.size ≤ s_) ∧ (w.heap.size ≤ s_) ∧ (gb340 ≠ s_) ∧ (s_ ≠ gb340) ∧ (gb341 ≠ s_) ∧ (s_ ≠ gb341) ∧ (gb342 ≠ s_) ∧ (s_ ≠ gb342) ∧ (Below w.heap.size w w')) ?_ ?_
          rotate_left
          ·intro hJ2_5_16
           refine join_ (σ := Unit) 9 #[true, true, true, true, true, true, true, true, false, true, true, false, false, false, false, false, false, false, false] (fun s_ => [(29, .agg #[.int .u64 t345, .int .u64 t346]), (32, .agg #[.int .u64 t347, .int .u64 t348])]) (fun s_ w' => (w'.cell? ⟨gb340, 0, none⟩ = some (.int .i64 a0_0) ∧ w'.cell? ⟨gb340, 1, none⟩ = some (.int .i64 a0_1) ∧ w'.cell? ⟨gb340, 2, none⟩ = some (.int .i64 a0_2) ∧ w'.cell? ⟨gb341, 0, none⟩ = some (.int .i64 a1_0) ∧ w'.cell? ⟨gb341, 1, none⟩ = some (.int .i64 a1_1) ∧ w'.cell? ⟨gb341, 2, none⟩ = some (.int .i64 a1_2)) ∧ (w'.heap[gb340]? = some (.cells #[.int .i64 a0_0, .int .i64 a0_1, .int .i64 a0_2] 26 (0, 0))) ∧ (w'.heap[gb341]? = some (.cells #[.int .i64 a1_0, .int .i64 a1_1, .int .i64 a1_2] 26 (0, 0))) ∧ (w'.heap[gb342]? = some (.cells #[.int .u64 0, .int .u64 0, .int .u64 0] 36 (0, 0))) ∧ (Below w.heap.size w w')) ?_ ?_
           rotate_left
           ·intro hJ2_5
            refine join_ (σ := Nat) 9 #[true, true, true, true, true, false, true, true, false, true, true, false, false, false, false, false, true, false, false] (fun s_ => [(29, .agg #[.int .u64 t345, .int .u64 t346]), (5, .pointer (some ⟨s_, 0, none⟩))]) (fun s_ w' => (w'.cell? ⟨gb340, 0, none⟩ = some (.int .i64 a0_0) ∧ w'.cell? ⟨gb340, 1, none⟩ = some (.int .i64 a0_1) ∧ w'.cell? ⟨gb340, 2, none⟩ = some (.int .i64 a0_2) ∧ w'.cell? ⟨gb341, 0, none⟩ = some (.int .i64 a1_0) ∧ w'.cell? ⟨gb341, 1, none⟩ = some (.int .i64 a1_1) ∧ w'.cell? ⟨gb341, 2, none⟩ = some (.int .i64 a1_2)) ∧ (w'.heap[gb340]? = some (.cells #[.int .i64 a0_0, .int .i64 a0_1, .int .i64 a0_2] 26 (0, 0))) ∧ (w'.heap[gb341]? = some (.cells #[.int .i64 a1_0, .int .i64 a1_1, .int .i64 a1_2] 26 (0, 0))) ∧ (w'.heap[gb342]? = some (.cells #[.int .u64 0, .int .u64 0, .int .u64 0] 36 (0, 0))) ∧ (w'.heap[s_]? = some (.cells #[.int .u64 0, .int .u64 0] 34 (0, 0))) ∧ (w.heap.size ≤ s_) ∧ (w.heap.size ≤ s_) ∧ (gb340 ≠ s_) ∧ (s_ ≠ gb340) ∧ (gb341 ≠ s_) ∧ (s_ ≠ gb341) ∧ (gb342 ≠ s_) ∧ (s_ ≠ gb342) ∧ (Below w.heap.size w w')) ?_ ?_
            rotate_left
            ·intro hJ2_16
             refine join_ (σ := Unit) 10 #[true, true, true, true, true, false, true, true, false, true, true, false, false, false, false, false, false, false, false] (fun s_ => [(29, .agg #[.int .u64 t345, .int .u64 t346])]) (fun s_ w' => (w'.cell? ⟨gb340, 0, none⟩ = some (.int .i64 a0_0) ∧ w'.cell? ⟨gb340, 1, none⟩ = some (.int .i64 a0_1) ∧ w'.cell? ⟨gb340, 2, none⟩ = some (.int .i64 a0_2) ∧ w'.cell? ⟨gb341, 0, none⟩ = some (.int .i64 a1_0) ∧ w'.cell? ⟨gb341, 1, none⟩ = some (.int .i64 a1_1) ∧ w'.cell? ⟨gb341, 2, none⟩ = some (.int .i64 a1_2)) ∧ (w'.heap[gb340]? = some (.cells #[.int .i64 a0_0, .int .i64 a0_1, .int .i64 a0_2] 26 (0, 0))) ∧ (w'.heap[gb341]? = some (.cells #[.int .i64 a1_0, .int .i64 a1_1, .int .i64 a1_2] 26 (0, 0))) ∧ (w'.heap[gb342]? = some (.cells #[.int .u64 0, .int .u64 0, .int .u64 0] 36 (0, 0))) ∧ (Below w.heap.size w w')) ?_ ?_
             rotate_left
             ·intro hJ2
              refine join_ (σ := Nat) 10 #[true, true, false, true, true, false, true, true, false, true, true, false, false, false, false, false, true, false, false] (fun s_ => [(5, .pointer (some ⟨s_, 0, none⟩))]) (fun s_ w' => (w'.cell? ⟨gb340, 0, none⟩ = some (.int .i64 a0_0) ∧ w'.cell? ⟨gb340, 1, none⟩ = some (.int .i64 a0_1) ∧ w'.cell? ⟨gb340, 2, none⟩ = some (.int .i64 a0_2) ∧ w'.cell? ⟨gb341, 0, none⟩ = some (.int .i64 a1_0) ∧ w'.cell? ⟨gb341, 1, none⟩ = some (.int .i64 a1_1) ∧ w'.cell? ⟨gb341, 2, none⟩ = some (.int .i64 a1_2)) ∧ (w'.heap[gb340]? = some (.cells #[.int .i64 a0_0, .int .i64 a0_1, .int .i64 a0_2] 26 (0, 0))) ∧ (w'.heap[gb341]? = some (.cells #[.int .i64 a1_0, .int .i64 a1_1, .int .i64 a1_2] 26 (0, 0))) ∧ (w'.heap[gb342]? = some (.cells #[.int .u64 0, .int .u64 0, .int .u64 0] 36 (0, 0))) ∧ (w'.heap[s_]? = some (.cells #[.int .u64 0, .int .u64 0] 34 (0, 0))) ∧ (w.heap.size ≤ s_) ∧ (w.heap.size ≤ s_) ∧ (gb340 ≠ s_) ∧ (s_ ≠ gb340) ∧ (gb341 ≠ s_) ∧ (s_ ≠ gb341) ∧ (gb342 ≠ s_) ∧ (s_ ≠ gb342) ∧ (Below w.heap.size w w')) ?_ ?_
              rotate_left
              ·intro hJ16
               refine two_ (i := 2) (j := 16) (Ni := some 29) (Nj := some 5) #[true, true, true, true, true, false, true, true, false, true, true, false, false, false, false, false, false, false, false] #[true, true, false, true, true, false, true, true, false, true, true, false, false, false, false, false, true, false, false] rfl rfl rfl rfl (two_of HT_.out (by kernel_rfl)) (by decide) (by decide) (fun K hK => ?_) (fun K hK => ?_)
               ·skip
                refine goes_ Try.func61 (by kernel_rfl) rfl #[.int .i64 a0_1] (by rfl) rfl rfl (by (try simp only [List.map_toArray, List.map_cons, List.map_nil]); first | done | rfl | (simp only [List.length_drop, List.length_take]; rfl)) ?_
                with_reducible refine (hornbeamref15_square.calls kj2 a0_1 t345 t346 _ A44.out).mono ?_
                rintro e w50 ⟨rfl, hb⟩
                refine ⟨_, rfl, ?_⟩
                have n0_ := Aside0.mk (bB (g := gb340) (o := .cells #[.int .i64 a0_0, .int .i64 a0_1, .int .i64 a0_2] 26 (0, 0)) (by (with_reducible repeat (first | refine bN ?_ _ | refine bD ?_ | refine bA ?_ _)); exact BK340.out) hb)
                have n1_ := Aside0.mk (bB (g := gb341) (o := .cells #[.int .i64 a1_0, .int .i64 a1_1, .int .i64 a1_2] 26 (0, 0)) (by (with_reducible repeat (first | refine bN ?_ _ | refine bD ?_ | refine bA ?_ _)); exact BK341.out) hb)
                have n2_ := Aside0.mk (bB (g := gb342) (o := .cells #[.int .u64 0, .int .u64 0, .int .u64 0] 36 (0, 0)) (by (with_reducible repeat (first | refine bN ?_ _ | refine bD ?_ | refine bA ?_ _)); exact BK342.out) hb)
                have n3_ := Aside0.mk (lP (by repeat (first | (with_reducible first | exact HB.out | apply lA | apply lN | apply lD | refine lS ?_ GE340.out | refine lS ?_ GE341.out | refine lS ?_ GE342.out) | exact HB.out)) hb)
                clear BK340 BK341 BK342 HB
                have BK340 := n0_; have BK341 := n1_; have BK342 := n2_; have HB := n3_
                clear n0_ n1_ n2_ n3_
                (try clear hb)
                (try clear hb2)
                (try clear hk)
                (try clear hi)
                refine hK.out _ _ ⟨(bC BK340.out 0).trans rfl, (bC BK340.out 1).trans rfl, (bC BK340.out 2).trans rfl, (bC BK341.out 0).trans rfl, (bC BK341.out 1).trans rfl, (bC BK341.out 2).trans rfl⟩ (fun hHeld => ?_)
                clear hK K
                refine norm_ (a' := ?_) ?_ ?_
                rotate_left
                ·show Act.put _ (some 29) _ = _
                 simp only [Act.put, List.setIfInBounds_toArray, List.set_cons_zero, List.set_cons_succ, i64_w, i32_w]
                 rfl
                exact norm_ (by first | (simp only [putAll, Act.put, List.setIfInBounds_toArray, List.set_cons_zero, List.set_cons_succ]; done) | (simp only [putAll, Act.put, List.setIfInBounds_toArray, List.set_cons_zero, List.set_cons_succ]; rfl)) (hJ2 () _ ⟨hHeld, (by (with_reducible repeat (first | refine bN ?_ _ | refine bD ?_ | refine bA ?_ _)); exact BK340.out), (by (with_reducible repeat (first | refine bN ?_ _ | refine bD ?_ | refine bA ?_ _)); exact BK341.out), (by (with_reducible repeat (first | refine bN ?_ _ | refine bD ?_ | refine bA ?_ _)); exact BK342.out), (by repeat (first | (with_reducible first | exact HB.out | apply lA | apply lN | apply lD | refine lS ?_ GE340.out | refine lS ?_ GE341.out | refine lS ?_ GE342.out) | exact HB.out))⟩)
               ·skip
                refine box_step ?hg (N := 5) ?hd (cs := #[.int .u64 0, .int .u64 0]) (t := 34) ?hr ?_; (case hd => rfl); (case hg => rfl); (case hr => first | (go_simp; done) | (go_simp; rfl))
                intro gb356 hg w50 hbox hb
                have n0_ := Aside0.mk (bB (g := gb340) (o := .cells #[.int .i64 a0_0, .int .i64 a0_1, .int .i64 a0_2] 26 (0, 0)) (by (with_reducible repeat (first | refine bN ?_ _ | refine bD ?_ | refine bA ?_ _)); exact BK340.out) hb)
                have n1_ := Aside0.mk (bB (g := gb341) (o := .cells #[.int .i64 a1_0, .int .i64 a1_1, .int .i64 a1_2] 26 (0, 0)) (by (with_reducible repeat (first | refine bN ?_ _ | refine bD ?_ | refine bA ?_ _)); exact BK341.out) hb)
                have n2_ := Aside0.mk (bB (g := gb342) (o := .cells #[.int .u64 0, .int .u64 0, .int .u64 0] 36 (0, 0)) (by (with_reducible repeat (first | refine bN ?_ _ | refine bD ?_ | refine bA ?_ _)); exact BK342.out) hb)
                have n3_ := Aside0.mk (lP (by repeat (first | (with_reducible first | exact HB.out | apply lA | apply lN | apply lD | refine lS ?_ GE340.out | refine lS ?_ GE341.out | refine lS ?_ GE342.out) | exact HB.out)) hb)
                have n4_ := Aside0.mk (hbox)
                have n5_ := Aside0.mk ((by rw [hg]; exact (lZ (by repeat (first | (with_reducible first | exact HB.out | apply lA | apply lN | apply lD | refine lS ?_ GE340.out | refine lS ?_ GE341.out | refine lS ?_ GE342.out) | exact HB.out))) : w.heap.size ≤ gb356))
                have n6_ := Aside0.mk ((by rw [hg]; exact (lZ (by repeat (first | (with_reducible first | exact HB.out | apply lA | apply lN | apply lD | refine lS ?_ GE340.out | refine lS ?_ GE341.out | refine lS ?_ GE342.out) | exact HB.out))) : w.heap.size ≤ gb356))
                have n7_ := Aside0.mk ((by rw [hg]; exact Nat.ne_of_lt (bL (g := gb340) (o := .cells #[.int .i64 a0_0, .int .i64 a0_1, .int .i64 a0_2] 26 (0, 0)) (by (with_reducible repeat (first | refine bN ?_ _ | refine bD ?_ | refine bA ?_ _)); exact BK340.out)) : gb340 ≠ gb356))
                have n8_ := Aside0.mk ((by rw [hg]; exact Nat.ne_of_gt (bL (g := gb340) (o := .cells #[.int .i64 a0_0, .int .i64 a0_1, .int .i64 a0_2] 26 (0, 0)) (by (with_reducible repeat (first | refine bN ?_ _ | refine bD ?_ | refine bA ?_ _)); exact BK340.out)) : gb356 ≠ gb340))
                have n9_ := Aside0.mk ((by rw [hg]; exact Nat.ne_of_lt (bL (g := gb341) (o := .cells #[.int .i64 a1_0, .int .i64 a1_1, .int .i64 a1_2] 26 (0, 0)) (by (with_reducible repeat (first | refine bN ?_ _ | refine bD ?_ | refine bA ?_ _)); exact BK341.out)) : gb341 ≠ gb356))
                have n10_ := Aside0.mk ((by rw [hg]; exact Nat.ne_of_gt (bL (g := gb341) (o := .cells #[.int .i64 a1_0, .int .i64 a1_1, .int .i64 a1_2] 26 (0, 0)) (by (with_reducible repeat (first | refine bN ?_ _ | refine bD ?_ | refine bA ?_ _)); exact BK341.out)) : gb356 ≠ gb341))
                have n11_ := Aside0.mk ((by rw [hg]; exact Nat.ne_of_lt (bL (g := gb342) (o := .cells #[.int .u64 0, .int .u64 0, .int .u64 0] 36 (0, 0)) (by (with_reducible repeat (first | refine bN ?_ _ | refine bD ?_ | refine bA ?_ _)); exact BK342.out)) : gb342 ≠ gb356))
                have n12_ := Aside0.mk ((by rw [hg]; exact Nat.ne_of_gt (bL (g := gb342) (o := .cells #[.int .u64 0, .int .u64 0, .int .u64 0] 36 (0, 0)) (by (with_reducible repeat (first | refine bN ?_ _ | refine bD ?_ | refine bA ?_ _)); exact BK342.out)) : gb356 ≠ gb342))
                clear BK340 BK341 BK342 HB
                have BK340 := n0_; have BK341 := n1_; have BK342 := n2_; have HB := n3_; have BK356 := n4_; have GW356 := n5_; have GE356 := n6_; have NB340_356 := n7_; have NB356_340 := n8_; have NB341_356 := n9_; have NB356_341 := n10_; have NB342_356 := n11_; have NB356_342 := n12_
                clear n0_ n1_ n2_ n3_ n4_ n5_ n6_ n7_ n8_ n9_ n10_ n11_ n12_ hb hbox hg
                refine hK.out _ _ ⟨(bC BK340.out 0).trans rfl, (bC BK340.out 1).trans rfl, (bC BK340.out 2).trans rfl, (bC BK341.out 0).trans rfl, (bC BK341.out 1).trans rfl, (bC BK341.out 2).trans rfl⟩ (fun hHeld => ?_)
                clear hK K
                refine norm_ (a' := ?_) ?_ ?_
                rotate_left
                ·show Act.put _ (some 5) _ = _
                 simp only [Act.put, List.setIfInBounds_toArray, List.set_cons_zero, List.set_cons_succ, i64_w, i32_w]
                 rfl
                exact norm_ (by first | (simp only [putAll, Act.put, List.setIfInBounds_toArray, List.set_cons_zero, List.set_cons_succ]; done) | (simp only [putAll, Act.put, List.setIfInBounds_toArray, List.set_cons_zero, List.set_cons_succ]; rfl)) (hJ16 (gb356) _ ⟨hHeld, (by (with_reducible repeat (first | refine bN ?_ _ | refine bD ?_ | refine bA ?_ _)); exact BK340.out), (by (with_reducible repeat (first | refine bN ?_ _ | refine bD ?_ | refine bA ?_ _)); exact BK341.out), (by (with_reducible repeat (first | refine bN ?_ _ | refine bD ?_ | refine bA ?_ _)); exact BK342.out), (by (with_reducible repeat (first | refine bN ?_ _ | refine bD ?_ | refine bA ?_ _)); exact BK356.out), GW356.out, GE356.out, NB340_356.out, NB356_340.out, NB341_356.out, NB356_341.out, NB342_356.out, NB356_342.out, (by repeat (first | (with_reducible first | exact HB.out | apply lA | apply lN | apply lD | refine lS ?_ GE340.out | refine lS ?_ GE341.out | refine lS ?_ GE342.out | refine lS ?_ GE356.out) | exact HB.out))⟩)
              ·skip
               rintro gb356 w51 ⟨hS_, h0_, h1_, h2_, h3_, h4_, h5_, h6_, h7_, h8_, h9_, h10_, h11_, h12_⟩
               have n0_ : Aside0 (w51.heap[gb340]? = some (.cells #[.int .i64 a0_0, .int .i64 a0_1, .int .i64 a0_2] 26 (0, 0))) := ⟨h0_⟩
               have n1_ : Aside0 (w51.heap[gb341]? = some (.cells #[.int .i64 a1_0, .int .i64 a1_1, .int .i64 a1_2] 26 (0, 0))) := ⟨h1_⟩
               have n2_ : Aside0 (w51.heap[gb342]? = some (.cells #[.int .u64 0, .int .u64 0, .int .u64 0] 36 (0, 0))) := ⟨h2_⟩
               have n3_ : Aside0 (w51.heap[gb356]? = some (.cells #[.int .u64 0, .int .u64 0] 34 (0, 0))) := ⟨h3_⟩
               have n4_ : Aside0 (w.heap.size ≤ gb356) := ⟨h4_⟩
               have n5_ : Aside0 (w.heap.size ≤ gb356) := ⟨h5_⟩
               have n6_ : Aside0 (gb340 ≠ gb356) := ⟨h6_⟩
               have n7_ : Aside0 (gb356 ≠ gb340) := ⟨h7_⟩
               have n8_ : Aside0 (gb341 ≠ gb356) := ⟨h8_⟩
               have n9_ : Aside0 (gb356 ≠ gb341) := ⟨h9_⟩
               have n10_ : Aside0 (gb342 ≠ gb356) := ⟨h10_⟩
               have n11_ : Aside0 (gb356 ≠ gb342) := ⟨h11_⟩
               have n12_ : Aside0 (Below w.heap.size w w51) := ⟨h12_⟩
               clear BK340 BK341 BK342 HB h0_ h1_ h2_ h3_ h4_ h5_ h6_ h7_ h8_ h9_ h10_ h11_ h12_
               have BK340 := n0_; have BK341 := n1_; have BK342 := n2_; have BK356 := n3_; have GW356 := n4_; have GE356 := n5_; have NB340_356 := n6_; have NB356_340 := n7_; have NB341_356 := n8_; have NB356_341 := n9_; have NB342_356 := n10_; have NB356_342 := n11_; have HB := n12_
               clear n0_ n1_ n2_ n3_ n4_ n5_ n6_ n7_ n8_ n9_ n10_ n11_ n12_
               have hHeld : w51.cell? ⟨gb340, 0, none⟩ = some (.int .i64 a0_0) ∧ w51.cell? ⟨gb340, 1, none⟩ = some (.int .i64 a0_1) ∧ w51.cell? ⟨gb340, 2, none⟩ = some (.int .i64 a0_2) ∧ w51.cell? ⟨gb341, 0, none⟩ = some (.int .i64 a1_0) ∧ w51.cell? ⟨gb341, 1, none⟩ = some (.int .i64 a1_1) ∧ w51.cell? ⟨gb341, 2, none⟩ = some (.int .i64 a1_2) := hS_
               refine norm_ (a' := ?_) ?_ ?_
               rotate_left
               ·simp only [putAll, Act.put, List.setIfInBounds_toArray, List.set_cons_zero, List.set_cons_succ]
                rfl
               refine one_ (i := 2) (N := some 29) #[true, true, true, true, true, false, true, true, false, true, true, false, false, false, false, false, true, false, false] rfl rfl (one_of HT_.out (by kernel_rfl)) (by decide) (fun K hK => ?_)
               refine goes_ Try.func61 (by kernel_rfl) rfl #[.int .i64 a0_1] (by rfl) rfl rfl (by (try simp only [List.map_toArray, List.map_cons, List.map_nil]); first | done | rfl | (simp only [List.length_drop, List.length_take]; rfl)) ?_
               with_reducible refine (hornbeamref15_square.calls kj2 a0_1 t345 t346 _ A44.out).mono ?_
               rintro e w52 ⟨rfl, hb⟩
               refine ⟨_, rfl, ?_⟩
               have n0_ := Aside0.mk (bB (g := gb340) (o := .cells #[.int .i64 a0_0, .int .i64 a0_1, .int .i64 a0_2] 26 (0, 0)) (by (with_reducible repeat (first | refine bN ?_ _ | refine bD ?_ | refine bA ?_ _)); exact BK340.out) hb)
               have n1_ := Aside0.mk (bB (g := gb341) (o := .cells #[.int .i64 a1_0, .int .i64 a1_1, .int .i64 a1_2] 26 (0, 0)) (by (with_reducible repeat (first | refine bN ?_ _ | refine bD ?_ | refine bA ?_ _)); exact BK341.out) hb)
               have n2_ := Aside0.mk (bB (g := gb342) (o := .cells #[.int .u64 0, .int .u64 0, .int .u64 0] 36 (0, 0)) (by (with_reducible repeat (first | refine bN ?_ _ | refine bD ?_ | refine bA ?_ _)); exact BK342.out) hb)
               have n3_ := Aside0.mk (bB (g := gb356) (o := .cells #[.int .u64 0, .int .u64 0] 34 (0, 0)) (by (with_reducible repeat (first | refine bN ?_ _ | refine bD ?_ | refine bA ?_ _)); exact BK356.out) hb)
               have n4_ := Aside0.mk (lP (by repeat (first | (with_reducible first | exact HB.out | apply lA | apply lN | apply lD | refine lS ?_ GE340.out | refine lS ?_ GE341.out | refine lS ?_ GE342.out | refine lS ?_ GE356.out) | exact HB.out)) hb)
               clear BK340 BK341 BK342 BK356 HB
               have BK340 := n0_; have BK341 := n1_; have BK342 := n2_; have BK356 := n3_; have HB := n4_
               clear n0_ n1_ n2_ n3_ n4_
               (try clear hb)
               (try clear hb2)
               (try clear hk)
               (try clear hi)
               refine hK.out _ _ ⟨(bC BK340.out 0).trans rfl, (bC BK340.out 1).trans rfl, (bC BK340.out 2).trans rfl, (bC BK341.out 0).trans rfl, (bC BK341.out 1).trans rfl, (bC BK341.out 2).trans rfl⟩ (fun hHeld => ?_)
               clear hK K
               refine norm_ (a' := ?_) ?_ ?_
               rotate_left
               ·show Act.put _ (some 29) _ = _
                simp only [Act.put, List.setIfInBounds_toArray, List.set_cons_zero, List.set_cons_succ, i64_w, i32_w]
                rfl
               exact norm_ (by first | (simp only [putAll, Act.put, List.setIfInBounds_toArray, List.set_cons_zero, List.set_cons_succ]; done) | (simp only [putAll, Act.put, List.setIfInBounds_toArray, List.set_cons_zero, List.set_cons_succ]; rfl)) (hJ2_16 (gb356) _ ⟨hHeld, (by (with_reducible repeat (first | refine bN ?_ _ | refine bD ?_ | refine bA ?_ _)); exact BK340.out), (by (with_reducible repeat (first | refine bN ?_ _ | refine bD ?_ | refine bA ?_ _)); exact BK341.out), (by (with_reducible repeat (first | refine bN ?_ _ | refine bD ?_ | refine bA ?_ _)); exact BK342.out), (by (with_reducible repeat (first | refine bN ?_ _ | refine bD ?_ | refine bA ?_ _)); exact BK356.out), GW356.out, GE356.out, NB340_356.out, NB356_340.out, NB341_356.out, NB356_341.out, NB342_356.out, NB356_342.out, (by repeat (first | (with_reducible first | exact HB.out | apply lA | apply lN | apply lD | refine lS ?_ GE340.out | refine lS ?_ GE341.out | refine lS ?_ GE342.out | refine lS ?_ GE356.out) | exact HB.out))⟩)
             ·skip
              rintro _ w51 ⟨hS_, h0_, h1_, h2_, h3_⟩
              have n0_ : Aside0 (w51.heap[gb340]? = some (.cells #[.int .i64 a0_0, .int .i64 a0_1, .int .i64 a0_2] 26 (0, 0))) := ⟨h0_⟩
              have n1_ : Aside0 (w51.heap[gb341]? = some (.cells #[.int .i64 a1_0, .int .i64 a1_1, .int .i64 a1_2] 26 (0, 0))) := ⟨h1_⟩
              have n2_ : Aside0 (w51.heap[gb342]? = some (.cells #[.int .u64 0, .int .u64 0, .int .u64 0] 36 (0, 0))) := ⟨h2_⟩
              have n3_ : Aside0 (Below w.heap.size w w51) := ⟨h3_⟩
              clear BK340 BK341 BK342 HB h0_ h1_ h2_ h3_
              have BK340 := n0_; have BK341 := n1_; have BK342 := n2_; have HB := n3_
              clear n0_ n1_ n2_ n3_
              have hHeld : w51.cell? ⟨gb340, 0, none⟩ = some (.int .i64 a0_0) ∧ w51.cell? ⟨gb340, 1, none⟩ = some (.int .i64 a0_1) ∧ w51.cell? ⟨gb340, 2, none⟩ = some (.int .i64 a0_2) ∧ w51.cell? ⟨gb341, 0, none⟩ = some (.int .i64 a1_0) ∧ w51.cell? ⟨gb341, 1, none⟩ = some (.int .i64 a1_1) ∧ w51.cell? ⟨gb341, 2, none⟩ = some (.int .i64 a1_2) := hS_
              refine norm_ (a' := ?_) ?_ ?_
              rotate_left
              ·simp only [putAll, Act.put, List.setIfInBounds_toArray, List.set_cons_zero, List.set_cons_succ]
               rfl
              refine two_ (i := 5) (j := 16) (Ni := some 32) (Nj := some 5) #[true, true, true, true, true, true, true, true, false, true, true, false, false, false, false, false, false, false, false] #[true, true, true, true, true, false, true, true, false, true, true, false, false, false, false, false, true, false, false] rfl rfl rfl rfl (two_of HT_.out (by kernel_rfl)) (by decide) (by decide) (fun K hK => ?_) (fun K hK => ?_)
              ·skip
               refine goes_ Try.func64 (by kernel_rfl) rfl #[.agg #[.int .u64 t345, .int .u64 t346], .int .i64 a1_0] (by rfl) rfl rfl (by (try simp only [List.map_toArray, List.map_cons, List.map_nil]); first | done | rfl | (simp only [List.length_drop, List.length_take]; rfl)) ?_
               with_reducible refine (hornbeamref15_times.calls kj2 t345 t346 a1_0 t347 t348 _ A45.out).mono ?_
               rintro e w52 ⟨rfl, hb⟩
               refine ⟨_, rfl, ?_⟩
               have n0_ := Aside0.mk (bB (g := gb340) (o := .cells #[.int .i64 a0_0, .int .i64 a0_1, .int .i64 a0_2] 26 (0, 0)) (by (with_reducible repeat (first | refine bN ?_ _ | refine bD ?_ | refine bA ?_ _)); exact BK340.out) hb)
               have n1_ := Aside0.mk (bB (g := gb341) (o := .cells #[.int .i64 a1_0, .int .i64 a1_1, .int .i64 a1_2] 26 (0, 0)) (by (with_reducible repeat (first | refine bN ?_ _ | refine bD ?_ | refine bA ?_ _)); exact BK341.out) hb)
               have n2_ := Aside0.mk (bB (g := gb342) (o := .cells #[.int .u64 0, .int .u64 0, .int .u64 0] 36 (0, 0)) (by (with_reducible repeat (first | refine bN ?_ _ | refine bD ?_ | refine bA ?_ _)); exact BK342.out) hb)
               have n3_ := Aside0.mk (lP (by repeat (first | (with_reducible first | exact HB.out | apply lA | apply lN | apply lD | refine lS ?_ GE340.out | refine lS ?_ GE341.out | refine lS ?_ GE342.out) | exact HB.out)) hb)
               clear BK340 BK341 BK342 HB
               have BK340 := n0_; have BK341 := n1_; have BK342 := n2_; have HB := n3_
               clear n0_ n1_ n2_ n3_
               (try clear hb)
               (try clear hb2)
               (try clear hk)
               (try clear hi)
               refine hK.out _ _ ⟨(bC BK340.out 0).trans rfl, (bC BK340.out 1).trans rfl, (bC BK340.out 2).trans rfl, (bC BK341.out 0).trans rfl, (bC BK341.out 1).trans rfl, (bC BK341.out 2).trans rfl⟩ (fun hHeld => ?_)
               clear hK K
               refine norm_ (a' := ?_) ?_ ?_
               rotate_left
               ·show Act.put _ (some 32) _ = _
                simp only [Act.put, List.setIfInBounds_toArray, List.set_cons_zero, List.set_cons_succ, i64_w, i32_w]
                rfl
               exact norm_ (by first | (simp only [putAll, Act.put, List.setIfInBounds_toArray, List.set_cons_zero, List.set_cons_succ]; done) | (simp only [putAll, Act.put, List.setIfInBounds_toArray, List.set_cons_zero, List.set_cons_succ]; rfl)) (hJ2_5 () _ ⟨hHeld, (by (with_reducible repeat (first | refine bN ?_ _ | refine bD ?_ | refine bA ?_ _)); exact BK340.out), (by (with_reducible repeat (first | refine bN ?_ _ | refine bD ?_ | refine bA ?_ _)); exact BK341.out), (by (with_reducible repeat (first | refine bN ?_ _ | refine bD ?_ | refine bA ?_ _)); exact BK342.out), (by repeat (first | (with_reducible first | exact HB.out | apply lA | apply lN | apply lD | refine lS ?_ GE340.out | refine lS ?_ GE341.out | refine lS ?_ GE342.out) | exact HB.out))⟩)
              ·skip
               refine box_step ?hg (N := 5) ?hd (cs := #[.int .u64 0, .int .u64 0]) (t := 34) ?hr ?_; (case hd => rfl); (case hg => rfl); (case hr => first | (go_simp; done) | (go_simp; rfl))
               intro gb356 hg w52 hbox hb
               have n0_ := Aside0.mk (bB (g := gb340) (o := .cells #[.int .i64 a0_0, .int .i64 a0_1, .int .i64 a0_2] 26 (0, 0)) (by (with_reducible repeat (first | refine bN ?_ _ | refine bD ?_ | refine bA ?_ _)); exact BK340.out) hb)
               have n1_ := Aside0.mk (bB (g := gb341) (o := .cells #[.int .i64 a1_0, .int .i64 a1_1, .int .i64 a1_2] 26 (0, 0)) (by (with_reducible repeat (first | refine bN ?_ _ | refine bD ?_ | refine bA ?_ _)); exact BK341.out) hb)
               have n2_ := Aside0.mk (bB (g := gb342) (o := .cells #[.int .u64 0, .int .u64 0, .int .u64 0] 36 (0, 0)) (by (with_reducible repeat (first | refine bN ?_ _ | refine bD ?_ | refine bA ?_ _)); exact BK342.out) hb)
               have n3_ := Aside0.mk (lP (by repeat (first | (with_reducible first | exact HB.out | apply lA | apply lN | apply lD | refine lS ?_ GE340.out | refine lS ?_ GE341.out | refine lS ?_ GE342.out) | exact HB.out)) hb)
               have n4_ := Aside0.mk (hbox)
               have n5_ := Aside0.mk ((by rw [hg]; exact (lZ (by repeat (first | (with_reducible first | exact HB.out | apply lA | apply lN | apply lD | refine lS ?_ GE340.out | refine lS ?_ GE341.out | refine lS ?_ GE342.out) | exact HB.out))) : w.heap.size ≤ gb356))
               have n6_ := Aside0.mk ((by rw [hg]; exact (lZ (by repeat (first | (with_reducible first | exact HB.out | apply lA | apply lN | apply lD | refine lS ?_ GE340.out | refine lS ?_ GE341.out | refine lS ?_ GE342.out) | exact HB.out))) : w.heap.size ≤ gb356))
               have n7_ := Aside0.mk ((by rw [hg]; exact Nat.ne_of_lt (bL (g := gb340) (o := .cells #[.int .i64 a0_0, .int .i64 a0_1, .int .i64 a0_2] 26 (0, 0)) (by (with_reducible repeat (first | refine bN ?_ _ | refine bD ?_ | refine bA ?_ _)); exact BK340.out)) : gb340 ≠ gb356))
               have n8_ := Aside0.mk ((by rw [hg]; exact Nat.ne_of_gt (bL (g := gb340) (o := .cells #[.int .i64 a0_0, .int .i64 a0_1, .int .i64 a0_2] 26 (0, 0)) (by (with_reducible repeat (first | refine bN ?_ _ | refine bD ?_ | refine bA ?_ _)); exact BK340.out)) : gb356 ≠ gb340))
               have n9_ := Aside0.mk ((by rw [hg]; exact Nat.ne_of_lt (bL (g := gb341) (o := .cells #[.int .i64 a1_0, .int .i64 a1_1, .int .i64 a1_2] 26 (0, 0)) (by (with_reducible repeat (first | refine bN ?_ _ | refine bD ?_ | refine bA ?_ _)); exact BK341.out)) : gb341 ≠ gb356))
               have n10_ := Aside0.mk ((by rw [hg]; exact Nat.ne_of_gt (bL (g := gb341) (o := .cells #[.int .i64 a1_0, .int .i64 a1_1, .int .i64 a1_2] 26 (0, 0)) (by (with_reducible repeat (first | refine bN ?_ _ | refine bD ?_ | refine bA ?_ _)); exact BK341.out)) : gb356 ≠ gb341))
               have n11_ := Aside0.mk ((by rw [hg]; exact Nat.ne_of_lt (bL (g := gb342) (o := .cells #[.int .u64 0, .int .u64 0, .int .u64 0] 36 (0, 0)) (by (with_reducible repeat (first | refine bN ?_ _ | refine bD ?_ | refine bA ?_ _)); exact BK342.out)) : gb342 ≠ gb356))
               have n12_ := Aside0.mk ((by rw [hg]; exact Nat.ne_of_gt (bL (g := gb342) (o := .cells #[.int .u64 0, .int .u64 0, .int .u64 0] 36 (0, 0)) (by (with_reducible repeat (first | refine bN ?_ _ | refine bD ?_ | refine bA ?_ _)); exact BK342.out)) : gb356 ≠ gb342))
               clear BK340 BK341 BK342 HB
               have BK340 := n0_; have BK341 := n1_; have BK342 := n2_; have HB := n3_; have BK356 := n4_; have GW356 := n5_; have GE356 := n6_; have NB340_356 := n7_; have NB356_340 := n8_; have NB341_356 := n9_; have NB356_341 := n10_; have NB342_356 := n11_; have NB356_342 := n12_
               clear n0_ n1_ n2_ n3_ n4_ n5_ n6_ n7_ n8_ n9_ n10_ n11_ n12_ hb hbox hg
               refine hK.out _ _ ⟨(bC BK340.out 0).trans rfl, (bC BK340.out 1).trans rfl, (bC BK340.out 2).trans rfl, (bC BK341.out 0).trans rfl, (bC BK341.out 1).trans rfl, (bC BK341.out 2).trans rfl⟩ (fun hHeld => ?_)
               clear hK K
               refine norm_ (a' := ?_) ?_ ?_
               rotate_left
               ·show Act.put _ (some 5) _ = _
                simp only [Act.put, List.setIfInBounds_toArray, List.set_cons_zero, List.set_cons_succ, i64_w, i32_w]
                rfl
               exact norm_ (by first | (simp only [putAll, Act.put, List.setIfInBounds_toArray, List.set_cons_zero, List.set_cons_succ]; done) | (simp only [putAll, Act.put, List.setIfInBounds_toArray, List.set_cons_zero, List.set_cons_succ]; rfl)) (hJ2_16 (gb356) _ ⟨hHeld, (by (with_reducible repeat (first | refine bN ?_ _ | refine bD ?_ | refine bA ?_ _)); exact BK340.out), (by (with_reducible repeat (first | refine bN ?_ _ | refine bD ?_ | refine bA ?_ _)); exact BK341.out), (by (with_reducible repeat (first | refine bN ?_ _ | refine bD ?_ | refine bA ?_ _)); exact BK342.out), (by (with_reducible repeat (first | refine bN ?_ _ | refine bD ?_ | refine bA ?_ _)); exact BK356.out), GW356.out, GE356.out, NB340_356.out, NB356_340.out, NB341_356.out, NB356_341.out, NB342_356.out, NB356_342.out, (by repeat (first | (with_reducible first | exact HB.out | apply lA | apply lN | apply lD | refine lS ?_ GE340.out | refine lS ?_ GE341.out | refine lS ?_ GE342.out | refine lS ?_ GE356.out) | exact HB.out))⟩)
            ·skip
             rintro gb356 w52 ⟨hS_, h0_, h1_, h2_, h3_, h4_, h5_, h6_, h7_, h8_, h9_, h10_, h11_, h12_⟩
             have n0_ : Aside0 (w52.heap[gb340]? = some (.cells #[.int .i64 a0_0, .int .i64 a0_1, .int .i64 a0_2] 26 (0, 0))) := ⟨h0_⟩
             have n1_ : Aside0 (w52.heap[gb341]? = some (.cells #[.int .i64 a1_0, .int .i64 a1_1, .int .i64 a1_2] 26 (0, 0))) := ⟨h1_⟩
             have n2_ : Aside0 (w52.heap[gb342]? = some (.cells #[.int .u64 0, .int .u64 0, .int .u64 0] 36 (0, 0))) := ⟨h2_⟩
             have n3_ : Aside0 (w52.heap[gb356]? = some (.cells #[.int .u64 0, .int .u64 0] 34 (0, 0))) := ⟨h3_⟩
             have n4_ : Aside0 (w.heap.size ≤ gb356) := ⟨h4_⟩
             have n5_ : Aside0 (w.heap.size ≤ gb356) := ⟨h5_⟩
             have n6_ : Aside0 (gb340 ≠ gb356) := ⟨h6_⟩
             have n7_ : Aside0 (gb356 ≠ gb340) := ⟨h7_⟩
             have n8_ : Aside0 (gb341 ≠ gb356) := ⟨h8_⟩
             have n9_ : Aside0 (gb356 ≠ gb341) := ⟨h9_⟩
             have n10_ : Aside0 (gb342 ≠ gb356) := ⟨h10_⟩
             have n11_ : Aside0 (gb356 ≠ gb342) := ⟨h11_⟩
             have n12_ : Aside0 (Below w.heap.size w w52) := ⟨h12_⟩
             clear BK340 BK341 BK342 HB h0_ h1_ h2_ h3_ h4_ h5_ h6_ h7_ h8_ h9_ h10_ h11_ h12_
             have BK340 := n0_; have BK341 := n1_; have BK342 := n2_; have BK356 := n3_; have GW356 := n4_; have GE356 := n5_; have NB340_356 := n6_; have NB356_340 := n7_; have NB341_356 := n8_; have NB356_341 := n9_; have NB342_356 := n10_; have NB356_342 := n11_; have HB := n12_
             clear n0_ n1_ n2_ n3_ n4_ n5_ n6_ n7_ n8_ n9_ n10_ n11_ n12_
             have hHeld : w52.cell? ⟨gb340, 0, none⟩ = some (.int .i64 a0_0) ∧ w52.cell? ⟨gb340, 1, none⟩ = some (.int .i64 a0_1) ∧ w52.cell? ⟨gb340, 2, none⟩ = some (.int .i64 a0_2) ∧ w52.cell? ⟨gb341, 0, none⟩ = some (.int .i64 a1_0) ∧ w52.cell? ⟨gb341, 1, none⟩ = some (.int .i64 a1_1) ∧ w52.cell? ⟨gb341, 2, none⟩ = some (.int .i64 a1_2) := hS_
             refine norm_ (a' := ?_) ?_ ?_
             rotate_left
             ·simp only [putAll, Act.put, List.setIfInBounds_toArray, List.set_cons_zero, List.set_cons_succ]
              rfl
             refine one_ (i := 5) (N := some 32) #[true, true, true, true, true, true, true, true, false, true, true, false, false, false, false, false, true, false, false] rfl rfl (one_of HT_.out (by kernel_rfl)) (by decide) (fun K hK => ?_)
             refine goes_ Try.func64 (by kernel_rfl) rfl #[.agg #[.int .u64 t345, .int .u64 t346], .int .i64 a1_0] (by rfl) rfl rfl (by (try simp only [List.map_toArray, List.map_cons, List.map_nil]); first | done | rfl | (simp only [List.length_drop, List.length_take]; rfl)) ?_
             with_reducible refine (hornbeamref15_times.calls kj2 t345 t346 a1_0 t347 t348 _ A45.out).mono ?_
             rintro e w53 ⟨rfl, hb⟩
             refine ⟨_, rfl, ?_⟩
             have n0_ := Aside0.mk (bB (g := gb340) (o := .cells #[.int .i64 a0_0, .int .i64 a0_1, .int .i64 a0_2] 26 (0, 0)) (by (with_reducible repeat (first | refine bN ?_ _ | refine bD ?_ | refine bA ?_ _)); exact BK340.out) hb)
             have n1_ := Aside0.mk (bB (g := gb341) (o := .cells #[.int .i64 a1_0, .int .i64 a1_1, .int .i64 a1_2] 26 (0, 0)) (by (with_reducible repeat (first | refine bN ?_ _ | refine bD ?_ | refine bA ?_ _)); exact BK341.out) hb)
             have n2_ := Aside0.mk (bB (g := gb342) (o := .cells #[.int .u64 0, .int .u64 0, .int .u64 0] 36 (0, 0)) (by (with_reducible repeat (first | refine bN ?_ _ | refine bD ?_ | refine bA ?_ _)); exact BK342.out) hb)
             have n3_ := Aside0.mk (bB (g := gb356) (o := .cells #[.int .u64 0, .int .u64 0] 34 (0, 0)) (by (with_reducible repeat (first | refine bN ?_ _ | refine bD ?_ | refine bA ?_ _)); exact BK356.out) hb)
             have n4_ := Aside0.mk (lP (by repeat (first | (with_reducible first | exact HB.out | apply lA | apply lN | apply lD | refine lS ?_ GE340.out | refine lS ?_ GE341.out | refine lS ?_ GE342.out | refine lS ?_ GE356.out) | exact HB.out)) hb)
             clear BK340 BK341 BK342 BK356 HB
             have BK340 := n0_; have BK341 := n1_; have BK342 := n2_; have BK356 := n3_; have HB := n4_
             clear n0_ n1_ n2_ n3_ n4_
             (try clear hb)
             (try clear hb2)
             (try clear hk)
             (try clear hi)
             refine hK.out _ _ ⟨(bC BK340.out 0).trans rfl, (bC BK340.out 1).trans rfl, (bC BK340.out 2).trans rfl, (bC BK341.out 0).trans rfl, (bC BK341.out 1).trans rfl, (bC BK341.out 2).trans rfl⟩ (fun hHeld => ?_)
             clear hK K
             refine norm_ (a' := ?_) ?_ ?_
             rotate_left
             ·show Act.put _ (some 32) _ = _
              simp only [Act.put, List.setIfInBounds_toArray, List.set_cons_zero, List.set_cons_succ, i64_w, i32_w]
              rfl
             exact norm_ (by first | (simp only [putAll, Act.put, List.setIfInBounds_toArray, List.set_cons_zero, List.set_cons_succ]; done) | (simp only [putAll, Act.put, List.setIfInBounds_toArray, List.set_cons_zero, List.set_cons_succ]; rfl)) (hJ2_5_16 (gb356) _ ⟨hHeld, (by (with_reducible repeat (first | refine bN ?_ _ | refine bD ?_ | refine bA ?_ _)); exact BK340.out), (by (with_reducible repeat (first | refine bN ?_ _ | refine bD ?_ | refine bA ?_ _)); exact BK341.out), (by (with_reducible repeat (first | refine bN ?_ _ | refine bD ?_ | refine bA ?_ _)); exact BK342.out), (by (with_reducible repeat (first | refine bN ?_ _ | refine bD ?_ | refine bA ?_ _)); exact BK356.out), GW356.out, GE356.out, NB340_356.out, NB356_340.out, NB341_356.out, NB356_341.out, NB342_356.out, NB356_342.out, (by repeat (first | (with_reducible first | exact HB.out | apply lA | apply lN | apply lD | refine lS ?_ GE340.out | refine lS ?_ GE341.out | refine lS ?_ GE342.out | refine lS ?_ GE356.out) | exact HB.out))⟩)
           ·skip
            rintro _ w52 ⟨hS_, h0_, h1_, h2_, h3_⟩
            have n0_ : Aside0 (w52.heap[gb340]? = some (.cells #[.int .i64 a0_0, .int .i64 a0_1, .int .i64 a0_2] 26 (0, 0))) := ⟨h0_⟩
            have n1_ : Aside0 (w52.heap[gb341]? = some (.cells #[.int .i64 a1_0, .int .i64 a1_1, .int .i64 a1_2] 26 (0, 0))) := ⟨h1_⟩
            have n2_ : Aside0 (w52.heap[gb342]? = some (.cells #[.int .u64 0, .int .u64 0, .int .u64 0] 36 (0, 0))) := ⟨h2_⟩
            have n3_ : Aside0 (Below w.heap.size w w52) := ⟨h3_⟩
            clear BK340 BK341 BK342 HB h0_ h1_ h2_ h3_
            have BK340 := n0_; have BK341 := n1_; have BK342 := n2_; have HB := n3_
            clear n0_ n1_ n2_ n3_
            have hHeld : w52.cell? ⟨gb340, 0, none⟩ = some (.int .i64 a0_0) ∧ w52.cell? ⟨gb340, 1, none⟩ = some (.int .i64 a0_1) ∧ w52.cell? ⟨gb340, 2, none⟩ = some (.int .i64 a0_2) ∧ w52.cell? ⟨gb341, 0, none⟩ = some (.int .i64 a1_0) ∧ w52.cell? ⟨gb341, 1, none⟩ = some (.int .i64 a1_1) ∧ w52.cell? ⟨gb341, 2, none⟩ = some (.int .i64 a1_2) := hS_
            refine norm_ (a' := ?_) ?_ ?_
            rotate_left
            ·simp only [putAll, Act.put, List.setIfInBounds_toArray, List.set_cons_zero, List.set_cons_succ]
             rfl
            refine two_ (i := 8) (j := 16) (Ni := some 35) (Nj := some 5) #[true, true, true, true, true, true, true, true, true, true, true, false, false, false, false, false, false, false, false] #[true, true, true, true, true, true, true, true, false, true, true, false, false, false, false, false, true, false, false] rfl rfl rfl rfl (two_of HT_.out (by kernel_rfl)) (by decide) (by decide) (fun K hK => ?_) (fun K hK => ?_)
            ·skip
             refine goes_ Try.func61 (by kernel_rfl) rfl #[.int .i64 a1_1] (by rfl) rfl rfl (by (try simp only [List.map_toArray, List.map_cons, List.map_nil]); first | done | rfl | (simp only [List.length_drop, List.length_take]; rfl)) ?_
             with_reducible refine (hornbeamref15_square.calls kj2 a1_1 t349 t350 _ A46.out).mono ?_
             rintro e w53 ⟨rfl, hb⟩
             refine ⟨_, rfl, ?_⟩
             have n0_ := Aside0.mk (bB (g := gb340) (o := .cells #[.int .i64 a0_0, .int .i64 a0_1, .int .i64 a0_2] 26 (0, 0)) (by (with_reducible repeat (first | refine bN ?_ _ | refine bD ?_ | refine bA ?_ _)); exact BK340.out) hb)
             have n1_ := Aside0.mk (bB (g := gb341) (o := .cells #[.int .i64 a1_0, .int .i64 a1_1, .int .i64 a1_2] 26 (0, 0)) (by (with_reducible repeat (first | refine bN ?_ _ | refine bD ?_ | refine bA ?_ _)); exact BK341.out) hb)
             have n2_ := Aside0.mk (bB (g := gb342) (o := .cells #[.int .u64 0, .int .u64 0, .int .u64 0] 36 (0, 0)) (by (with_reducible repeat (first | refine bN ?_ _ | refine bD ?_ | refine bA ?_ _)); exact BK342.out) hb)
             have n3_ := Aside0.mk (lP (by repeat (first | (with_reducible first | exact HB.out | apply lA | apply lN | apply lD | refine lS ?_ GE340.out | refine lS ?_ GE341.out | refine lS ?_ GE342.out) | exact HB.out)) hb)
             clear BK340 BK341 BK342 HB
             have BK340 := n0_; have BK341 := n1_; have BK342 := n2_; have HB := n3_
             clear n0_ n1_ n2_ n3_
             (try clear hb)
             (try clear hb2)
             (try clear hk)
             (try clear hi)
             refine hK.out _ _ ⟨(bC BK340.out 0).trans rfl, (bC BK340.out 1).trans rfl, (bC BK340.out 2).trans rfl, (bC BK341.out 0).trans rfl, (bC BK341.out 1).trans rfl, (bC BK341.out 2).trans rfl⟩ (fun hHeld => ?_)
             clear hK K
             refine norm_ (a' := ?_) ?_ ?_
             rotate_left
             ·show Act.put _ (some 35) _ = _
              simp only [Act.put, List.setIfInBounds_toArray, List.set_cons_zero, List.set_cons_succ, i64_w, i32_w]
              rfl
             exact norm_ (by first | (simp only [putAll, Act.put, List.setIfInBounds_toArray, List.set_cons_zero, List.set_cons_succ]; done) | (simp only [putAll, Act.put, List.setIfInBounds_toArray, List.set_cons_zero, List.set_cons_succ]; rfl)) (hJ2_5_8 () _ ⟨hHeld, (by (with_reducible repeat (first | refine bN ?_ _ | refine bD ?_ | refine bA ?_ _)); exact BK340.out), (by (with_reducible repeat (first | refine bN ?_ _ | refine bD ?_ | refine bA ?_ _)); exact BK341.out), (by (with_reducible repeat (first | refine bN ?_ _ | refine bD ?_ | refine bA ?_ _)); exact BK342.out), (by repeat (first | (with_reducible first | exact HB.out | apply lA | apply lN | apply lD | refine lS ?_ GE340.out | refine lS ?_ GE341.out | refine lS ?_ GE342.out) | exact HB.out))⟩)
            ·skip
             refine box_step ?hg (N := 5) ?hd (cs := #[.int .u64 0, .int .u64 0]) (t := 34) ?hr ?_; (case hd => rfl); (case hg => rfl); (case hr => first | (go_simp; done) | (go_simp; rfl))
             intro gb356 hg w53 hbox hb
             have n0_ := Aside0.mk (bB (g := gb340) (o := .cells #[.int .i64 a0_0, .int .i64 a0_1, .int .i64 a0_2] 26 (0, 0)) (by (with_reducible repeat (first | refine bN ?_ _ | refine bD ?_ | refine bA ?_ _)); exact BK340.out) hb)
             have n1_ := Aside0.mk (bB (g := gb341) (o := .cells #[.int .i64 a1_0, .int .i64 a1_1, .int .i64 a1_2] 26 (0, 0)) (by (with_reducible repeat (first | refine bN ?_ _ | refine bD ?_ | refine bA ?_ _)); exact BK341.out) hb)
             have n2_ := Aside0.mk (bB (g := gb342) (o := .cells #[.int .u64 0, .int .u64 0, .int .u64 0] 36 (0, 0)) (by (with_reducible repeat (first | refine bN ?_ _ | refine bD ?_ | refine bA ?_ _)); exact BK342.out) hb)
             have n3_ := Aside0.mk (lP (by repeat (first | (with_reducible first | exact HB.out | apply lA | apply lN | apply lD | refine lS ?_ GE340.out | refine lS ?_ GE341.out | refine lS ?_ GE342.out) | exact HB.out)) hb)
             have n4_ := Aside0.mk (hbox)
             have n5_ := Aside0.mk ((by rw [hg]; exact (lZ (by repeat (first | (with_reducible first | exact HB.out | apply lA | apply lN | apply lD | refine lS ?_ GE340.out | refine lS ?_ GE341.out | refine lS ?_ GE342.out) | exact HB.out))) : w.heap.size ≤ gb356))
             have n6_ := Aside0.mk ((by rw [hg]; exact (lZ (by repeat (first | (with_reducible first | exact HB.out | apply lA | apply lN | apply lD | refine lS ?_ GE340.out | refine lS ?_ GE341.out | refine lS ?_ GE342.out) | exact HB.out))) : w.heap.size ≤ gb356))
             have n7_ := Aside0.mk ((by rw [hg]; exact Nat.ne_of_lt (bL (g := gb340) (o := .cells #[.int .i64 a0_0, .int .i64 a0_1, .int .i64 a0_2] 26 (0, 0)) (by (with_reducible repeat (first | refine bN ?_ _ | refine bD ?_ | refine bA ?_ _)); exact BK340.out)) : gb340 ≠ gb356))
             have n8_ := Aside0.mk ((by rw [hg]; exact Nat.ne_of_gt (bL (g := gb340) (o := .cells #[.int .i64 a0_0, .int .i64 a0_1, .int .i64 a0_2] 26 (0, 0)) (by (with_reducible repeat (first | refine bN ?_ _ | refine bD ?_ | refine bA ?_ _)); exact BK340.out)) : gb356 ≠ gb340))
             have n9_ := Aside0.mk ((by rw [hg]; exact Nat.ne_of_lt (bL (g := gb341) (o := .cells #[.int .i64 a1_0, .int .i64 a1_1, .int .i64 a1_2] 26 (0, 0)) (by (with_reducible repeat (first | refine bN ?_ _ | refine bD ?_ | refine bA ?_ _)); exact BK341.out)) : gb341 ≠ gb356))
             have n10_ := Aside0.mk ((by rw [hg]; exact Nat.ne_of_gt (bL (g := gb341) (o := .cells #[.int .i64 a1_0, .int .i64 a1_1, .int .i64 a1_2] 26 (0, 0)) (by (with_reducible repeat (first | refine bN ?_ _ | refine bD ?_ | refine bA ?_ _)); exact BK341.out)) : gb356 ≠ gb341))
             have n11_ := Aside0.mk ((by rw [hg]; exact Nat.ne_of_lt (bL (g := gb342) (o := .cells #[.int .u64 0, .int .u64 0, .int .u64 0] 36 (0, 0)) (by (with_reducible repeat (first | refine bN ?_ _ | refine bD ?_ | refine bA ?_ _)); exact BK342.out)) : gb342 ≠ gb356))
             have n12_ := Aside0.mk ((by rw [hg]; exact Nat.ne_of_gt (bL (g := gb342) (o := .cells #[.int .u64 0, .int .u64 0, .int .u64 0] 36 (0, 0)) (by (with_reducible repeat (first | refine bN ?_ _ | refine bD ?_ | refine bA ?_ _)); exact BK342.out)) : gb356 ≠ gb342))
             clear BK340 BK341 BK342 HB
             have BK340 := n0_; have BK341 := n1_; have BK342 := n2_; have HB := n3_; have BK356 := n4_; have GW356 := n5_; have GE356 := n6_; have NB340_356 := n7_; have NB356_340 := n8_; have NB341_356 := n9_; have NB356_341 := n10_; have NB342_356 := n11_; have NB356_342 := n12_
             clear n0_ n1_ n2_ n3_ n4_ n5_ n6_ n7_ n8_ n9_ n10_ n11_ n12_ hb hbox hg
             refine hK.out _ _ ⟨(bC BK340.out 0).trans rfl, (bC BK340.out 1).trans rfl, (bC BK340.out 2).trans rfl, (bC BK341.out 0).trans rfl, (bC BK341.out 1).trans rfl, (bC BK341.out 2).trans rfl⟩ (fun hHeld => ?_)
             clear hK K
             refine norm_ (a' := ?_) ?_ ?_
             rotate_left
             ·show Act.put _ (some 5) _ = _
              simp only [Act.put, List.setIfInBounds_toArray, List.set_cons_zero, List.set_cons_succ, i64_w, i32_w]
              rfl
             exact norm_ (by first | (simp only [putAll, Act.put, List.setIfInBounds_toArray, List.set_cons_zero, List.set_cons_succ]; done) | (simp only [putAll, Act.put, List.setIfInBounds_toArray, List.set_cons_zero, List.set_cons_succ]; rfl)) (hJ2_5_16 (gb356) _ ⟨hHeld, (by (with_reducible repeat (first | refine bN ?_ _ | refine bD ?_ | refine bA ?_ _)); exact BK340.out), (by (with_reducible repeat (first | refine bN ?_ _ | refine bD ?_ | refine bA ?_ _)); exact BK341.out), (by (with_reducible repeat (first | refine bN ?_ _ | refine bD ?_ | refine bA ?_ _)); exact BK342.out), (by (with_reducible repeat (first | refine bN ?_ _ | refine bD ?_ | refine bA ?_ _)); exact BK356.out), GW356.out, GE356.out, NB340_356.out, NB356_340.out, NB341_356.out, NB356_341.out, NB342_356.out, NB356_342.out, (by repeat (first | (with_reducible first | exact HB.out | apply lA | apply lN | apply lD | refine lS ?_ GE340.out | refine lS ?_ GE341.out | refine lS ?_ GE342.out | refine lS ?_ GE356.out) | exact HB.out))⟩)
          ·skip
           rintro gb356 w53 ⟨hS_, h0_, h1_, h2_, h3_, h4_, h5_, h6_, h7_, h8_, h9_, h10_, h11_, h12_⟩
           have n0_ : Aside0 (w53.heap[gb340]? = some (.cells #[.int .i64 a0_0, .int .i64 a0_1, .int .i64 a0_2] 26 (0, 0))) := ⟨h0_⟩
           have n1_ : Aside0 (w53.heap[gb341]? = some (.cells #[.int .i64 a1_0, .int .i64 a1_1, .int .i64 a1_2] 26 (0, 0))) := ⟨h1_⟩
           have n2_ : Aside0 (w53.heap[gb342]? = some (.cells #[.int .u64 0, .int .u64 0, .int .u64 0] 36 (0, 0))) := ⟨h2_⟩
           have n3_ : Aside0 (w53.heap[gb356]? = some (.cells #[.int .u64 0, .int .u64 0] 34 (0, 0))) := ⟨h3_⟩
           have n4_ : Aside0 (w.heap.size ≤ gb356) := ⟨h4_⟩
           have n5_ : Aside0 (w.heap.size ≤ gb356) := ⟨h5_⟩
           have n6_ : Aside0 (gb340 ≠ gb356) := ⟨h6_⟩
           have n7_ : Aside0 (gb356 ≠ gb340) := ⟨h7_⟩
           have n8_ : Aside0 (gb341 ≠ gb356) := ⟨h8_⟩
           have n9_ : Aside0 (gb356 ≠ gb341) := ⟨h9_⟩
           have n10_ : Aside0 (gb342 ≠ gb356) := ⟨h10_⟩
           have n11_ : Aside0 (gb356 ≠ gb342) := ⟨h11_⟩
           have n12_ : Aside0 (Below w.heap.size w w53) := ⟨h12_⟩
           clear BK340 BK341 BK342 HB h0_ h1_ h2_ h3_ h4_ h5_ h6_ h7_ h8_ h9_ h10_ h11_ h12_
           have BK340 := n0_; have BK341 := n1_; have BK342 := n2_; have BK356 := n3_; have GW356 := n4_; have GE356 := n5_; have NB340_356 := n6_; have NB356_340 := n7_; have NB341_356 := n8_; have NB356_341 := n9_; have NB342_356 := n10_; have NB356_342 := n11_; have HB := n12_
           clear n0_ n1_ n2_ n3_ n4_ n5_ n6_ n7_ n8_ n9_ n10_ n11_ n12_
           have hHeld : w53.cell? ⟨gb340, 0, none⟩ = some (.int .i64 a0_0) ∧ w53.cell? ⟨gb340, 1, none⟩ = some (.int .i64 a0_1) ∧ w53.cell? ⟨gb340, 2, none⟩ = some (.int .i64 a0_2) ∧ w53.cell? ⟨gb341, 0, none⟩ = some (.int .i64 a1_0) ∧ w53.cell? ⟨gb341, 1, none⟩ = some (.int .i64 a1_1) ∧ w53.cell? ⟨gb341, 2, none⟩ = some (.int .i64 a1_2) := hS_
           refine norm_ (a' := ?_) ?_ ?_
           rotate_left
           ·simp only [putAll, Act.put, List.setIfInBounds_toArray, List.set_cons_zero, List.set_cons_succ]
            rfl
           refine one_ (i := 8) (N := some 35) #[true, true, true, true, true, true, true, true, true, true, true, false, false, false, false, false, true, false, false] rfl rfl (one_of HT_.out (by kernel_rfl)) (by decide) (fun K hK => ?_)
           refine goes_ Try.func61 (by kernel_rfl) rfl #[.int .i64 a1_1] (by rfl) rfl rfl (by (try simp only [List.map_toArray, List.map_cons, List.map_nil]); first | done | rfl | (simp only [List.length_drop, List.length_take]; rfl)) ?_
           with_reducible refine (hornbeamref15_square.calls kj2 a1_1 t349 t350 _ A46.out).mono ?_
           rintro e w54 ⟨rfl, hb⟩
           refine ⟨_, rfl, ?_⟩
           have n0_ := Aside0.mk (bB (g := gb340) (o := .cells #[.int .i64 a0_0, .int .i64 a0_1, .int .i64 a0_2] 26 (0, 0)) (by (with_reducible repeat (first | refine bN ?_ _ | refine bD ?_ | refine bA ?_ _)); exact BK340.out) hb)
           have n1_ := Aside0.mk (bB (g := gb341) (o := .cells #[.int .i64 a1_0, .int .i64 a1_1, .int .i64 a1_2] 26 (0, 0)) (by (with_reducible repeat (first | refine bN ?_ _ | refine bD ?_ | refine bA ?_ _)); exact BK341.out) hb)
           have n2_ := Aside0.mk (bB (g := gb342) (o := .cells #[.int .u64 0, .int .u64 0, .int .u64 0] 36 (0, 0)) (by (with_reducible repeat (first | refine bN ?_ _ | refine bD ?_ | refine bA ?_ _)); exact BK342.out) hb)
           have n3_ := Aside0.mk (bB (g := gb356) (o := .cells #[.int .u64 0, .int .u64 0] 34 (0, 0)) (by (with_reducible repeat (first | refine bN ?_ _ | refine bD ?_ | refine bA ?_ _)); exact BK356.out) hb)
           have n4_ := Aside0.mk (lP (by repeat (first | (with_reducible first | exact HB.out | apply lA | apply lN | apply lD | refine lS ?_ GE340.out | refine lS ?_ GE341.out | refine lS ?_ GE342.out | refine lS ?_ GE356.out) | exact HB.out)) hb)
           clear BK340 BK341 BK342 BK356 HB
           have BK340 := n0_; have BK341 := n1_; have BK342 := n2_; have BK356 := n3_; have HB := n4_
           clear n0_ n1_ n2_ n3_ n4_
           (try clear hb)
           (try clear hb2)
           (try clear hk)
           (try clear hi)
           refine hK.out _ _ ⟨(bC BK340.out 0).trans rfl, (bC BK340.out 1).trans rfl, (bC BK340.out 2).trans rfl, (bC BK341.out 0).trans rfl, (bC BK341.out 1).trans rfl, (bC BK341.out 2).trans rfl⟩ (fun hHeld => ?_)
           clear hK K
           refine norm_ (a' := ?_) ?_ ?_
           rotate_left
           ·show Act.put _ (some 35) _ = _
            simp only [Act.put, List.setIfInBounds_toArray, List.set_cons_zero, List.set_cons_succ, i64_w, i32_w]
            rfl
           exact norm_ (by first | (simp only [putAll, Act.put, List.setIfInBounds_toArray, List.set_cons_zero, List.set_cons_succ]; done) | (simp only [putAll, Act.put, List.setIfInBounds_toArray, List.set_cons_zero, List.set_cons_succ]; rfl)) (hJ2_5_8_16 (gb356) _ ⟨hHeld, (by (with_reducible repeat (first | refine bN ?_ _ | refine bD ?_ | refine bA ?_ _)); exact BK340.out), (by (with_reducible repeat (first | refine bN ?_ _ | refine bD ?_ | refine bA ?_ _)); exact BK341.out), (by (with_reducible repeat (first | refine bN ?_ _ | refine bD ?_ | refine bA ?_ _)); exact BK342.out), (by (with_reducible repeat (first | refine bN ?_ _ | refine bD ?_ | refine bA ?_ _)); exact BK356.out), GW356.out, GE356.out, NB340_356.out, NB356_340.out, NB341_356.out, NB356_341.out, NB342_356.out, NB356_342.out, (by repeat (first | (with_reducible first | exact HB.out | apply lA | apply lN | apply lD | refine lS ?_ GE340.out | refine lS ?_ GE341.out | refine lS ?_ GE342.out | refine lS ?_ GE356.out) | exact HB.out))⟩)
         ·skip
          rintro _ w53 ⟨hS_, h0_, h1_, h2_, h3_⟩
          have n0_ : Aside0 (w53.heap[gb340]? = some (.cells #[.int .i64 a0_0, .int .i64 a0_1, .int .i64 a0_2] 26 (0, 0))) := ⟨h0_⟩
          have n1_ : Aside0 (w53.heap[gb341]? = some (.cells #[.int .i64 a1_0, .int .i64 a1_1, .int .i64 a1_2] 26 (0, 0))) := ⟨h1_⟩
          have n2_ : Aside0 (w53.heap[gb342]? = some (.cells #[.int .u64 0, .int .u64 0, .int .u64 0] 36 (0, 0))) := ⟨h2_⟩
          have n3_ : Aside0 (Below w.heap.size w w53) := ⟨h3_⟩
          clear BK340 BK341 BK342 HB h0_ h1_ h2_ h3_
          have BK340 := n0_; have BK341 := n1_; have BK342 := n2_; have HB := n3_
          clear n0_ n1_ n2_ n3_
          have hHeld : w53.cell? ⟨gb340, 0, none⟩ = some (.int .i64 a0_0) ∧ w53.cell? ⟨gb340, 1, none⟩ = some (.int .i64 a0_1) ∧ w53.cell? ⟨gb340, 2, none⟩ = some (.int .i64 a0_2) ∧ w53.cell? ⟨gb341, 0, none⟩ = some (.int .i64 a1_0) ∧ w53.cell? ⟨gb341, 1, none⟩ = some (.int .i64 a1_1) ∧ w53.cell? ⟨gb341, 2, none⟩ = some (.int .i64 a1_2) := hS_
          refine norm_ (a' := ?_) ?_ ?_
          rotate_left
          ·simp only [putAll, Act.put, List.setIfInBounds_toArray, List.set_cons_zero, List.set_cons_succ]
           rfl
          refine two_ (i := 11) (j := 16) (Ni := some 38) (Nj := some 5) #[true, true, true, true, true, true, true, true, true, true, true, true, false, false, false, false, false, false, false] #[true, true, true, true, true, true, true, true, true, true, true, false, false, false, false, false, true, false, false] rfl rfl rfl rfl (two_of HT_.out (by kernel_rfl)) (by decide) (by decide) (fun K hK => ?_) (fun K hK => ?_)
          ·skip
           refine goes_ Try.func64 (by kernel_rfl) rfl #[.agg #[.int .u64 t349, .int .u64 t350], .int .i64 a0_0] (by rfl) rfl rfl (by (try simp only [List.map_toArray, List.map_cons, List.map_nil]); first | done | rfl | (simp only [List.length_drop, List.length_take]; rfl)) ?_
           with_reducible refine (hornbeamref15_times.calls kj2 t349 t350 a0_0 t351 t352 _ A47.out).mono ?_
           rintro e w54 ⟨rfl, hb⟩
           refine ⟨_, rfl, ?_⟩
           have n0_ := Aside0.mk (bB (g := gb340) (o := .cells #[.int .i64 a0_0, .int .i64 a0_1, .int .i64 a0_2] 26 (0, 0)) (by (with_reducible repeat (first | refine bN ?_ _ | refine bD ?_ | refine bA ?_ _)); exact BK340.out) hb)
           have n1_ := Aside0.mk (bB (g := gb341) (o := .cells #[.int .i64 a1_0, .int .i64 a1_1, .int .i64 a1_2] 26 (0, 0)) (by (with_reducible repeat (first | refine bN ?_ _ | refine bD ?_ | refine bA ?_ _)); exact BK341.out) hb)
           have n2_ := Aside0.mk (bB (g := gb342) (o := .cells #[.int .u64 0, .int .u64 0, .int .u64 0] 36 (0, 0)) (by (with_reducible repeat (first | refine bN ?_ _ | refine bD ?_ | refine bA ?_ _)); exact BK342.out) hb)
           have n3_ := Aside0.mk (lP (by repeat (first | (with_reducible first | exact HB.out | apply lA | apply lN | apply lD | refine lS ?_ GE340.out | refine lS ?_ GE341.out | refine lS ?_ GE342.out) | exact HB.out)) hb)
           clear BK340 BK341 BK342 HB
           have BK340 := n0_; have BK341 := n1_; have BK342 := n2_; have HB := n3_
           clear n0_ n1_ n2_ n3_
           (try clear hb)
           (try clear hb2)
           (try clear hk)
           (try clear hi)
           refine hK.out _ _ ⟨(bC BK340.out 0).trans rfl, (bC BK340.out 1).trans rfl, (bC BK340.out 2).trans rfl, (bC BK341.out 0).trans rfl, (bC BK341.out 1).trans rfl, (bC BK341.out 2).trans rfl⟩ (fun hHeld => ?_)
           clear hK K
           refine norm_ (a' := ?_) ?_ ?_
           rotate_left
           ·show Act.put _ (some 38) _ = _
            simp only [Act.put, List.setIfInBounds_toArray, List.set_cons_zero, List.set_cons_succ, i64_w, i32_w]
            rfl
           exact norm_ (by first | (simp only [putAll, Act.put, List.setIfInBounds_toArray, List.set_cons_zero, List.set_cons_succ]; done) | (simp only [putAll, Act.put, List.setIfInBounds_toArray, List.set_cons_zero, List.set_cons_succ]; rfl)) (hJ2_5_8_11 () _ ⟨hHeld, (by (with_reducible repeat (first | refine bN ?_ _ | refine bD ?_ | refine bA ?_ _)); exact BK340.out), (by (with_reducible repeat (first | refine bN ?_ _ | refine bD ?_ | refine bA ?_ _)); exact BK341.out), (by (with_reducible repeat (first | refine bN ?_ _ | refine bD ?_ | refine bA ?_ _)); exact BK342.out), (by repeat (first | (with_reducible first | exact HB.out | apply lA | apply lN | apply lD | refine lS ?_ GE340.out | refine lS ?_ GE341.out | refine lS ?_ GE342.out) | exact HB.out))⟩)
          ·skip
           refine box_step ?hg (N := 5) ?hd (cs := #[.int .u64 0, .int .u64 0]) (t := 34) ?hr ?_; (case hd => rfl); (case hg => rfl); (case hr => first | (go_simp; done) | (go_simp; rfl))
           intro gb356 hg w54 hbox hb
           have n0_ := Aside0.mk (bB (g := gb340) (o := .cells #[.int .i64 a0_0, .int .i64 a0_1, .int .i64 a0_2] 26 (0, 0)) (by (with_reducible repeat (first | refine bN ?_ _ | refine bD ?_ | refine bA ?_ _)); exact BK340.out) hb)
           have n1_ := Aside0.mk (bB (g := gb341) (o := .cells #[.int .i64 a1_0, .int .i64 a1_1, .int .i64 a1_2] 26 (0, 0)) (by (with_reducible repeat (first | refine bN ?_ _ | refine bD ?_ | refine bA ?_ _)); exact BK341.out) hb)
           have n2_ := Aside0.mk (bB (g := gb342) (o := .cells #[.int .u64 0, .int .u64 0, .int .u64 0] 36 (0, 0)) (by (with_reducible repeat (first | refine bN ?_ _ | refine bD ?_ | refine bA ?_ _)); exact BK342.out) hb)
           have n3_ := Aside0.mk (lP (by repeat (first | (with_reducible first | exact HB.out | apply lA | apply lN | apply lD | refine lS ?_ GE340.out | refine lS ?_ GE341.out | refine lS ?_ GE342.out) | exact HB.out)) hb)
           have n4_ := Aside0.mk (hbox)
           have n5_ := Aside0.mk ((by rw [hg]; exact (lZ (by repeat (first | (with_reducible first | exact HB.out | apply lA | apply lN | apply lD | refine lS ?_ GE340.out | refine lS ?_ GE341.out | refine lS ?_ GE342.out) | exact HB.out))) : w.heap.size ≤ gb356))
           have n6_ := Aside0.mk ((by rw [hg]; exact (lZ (by repeat (first | (with_reducible first | exact HB.out | apply lA | apply lN | apply lD | refine lS ?_ GE340.out | refine lS ?_ GE341.out | refine lS ?_ GE342.out) | exact HB.out))) : w.heap.size ≤ gb356))
           have n7_ := Aside0.mk ((by rw [hg]; exact Nat.ne_of_lt (bL (g := gb340) (o := .cells #[.int .i64 a0_0, .int .i64 a0_1, .int .i64 a0_2] 26 (0, 0)) (by (with_reducible repeat (first | refine bN ?_ _ | refine bD ?_ | refine bA ?_ _)); exact BK340.out)) : gb340 ≠ gb356))
           have n8_ := Aside0.mk ((by rw [hg]; exact Nat.ne_of_gt (bL (g := gb340) (o := .cells #[.int .i64 a0_0, .int .i64 a0_1, .int .i64 a0_2] 26 (0, 0)) (by (with_reducible repeat (first | refine bN ?_ _ | refine bD ?_ | refine bA ?_ _)); exact BK340.out)) : gb356 ≠ gb340))
           have n9_ := Aside0.mk ((by rw [hg]; exact Nat.ne_of_lt (bL (g := gb341) (o := .cells #[.int .i64 a1_0, .int .i64 a1_1, .int .i64 a1_2] 26 (0, 0)) (by (with_reducible repeat (first | refine bN ?_ _ | refine bD ?_ | refine bA ?_ _)); exact BK341.out)) : gb341 ≠ gb356))
           have n10_ := Aside0.mk ((by rw [hg]; exact Nat.ne_of_gt (bL (g := gb341) (o := .cells #[.int .i64 a1_0, .int .i64 a1_1, .int .i64 a1_2] 26 (0, 0)) (by (with_reducible repeat (first | refine bN ?_ _ | refine bD ?_ | refine bA ?_ _)); exact BK341.out)) : gb356 ≠ gb341))
           have n11_ := Aside0.mk ((by rw [hg]; exact Nat.ne_of_lt (bL (g := gb342) (o := .cells #[.int .u64 0, .int .u64 0, .int .u64 0] 36 (0, 0)) (by (with_reducible repeat (first | refine bN ?_ _ | refine bD ?_ | refine bA ?_ _)); exact BK342.out)) : gb342 ≠ gb356))
           have n12_ := Aside0.mk ((by rw [hg]; exact Nat.ne_of_gt (bL (g := gb342) (o := .cells #[.int .u64 0, .int .u64 0, .int .u64 0] 36 (0, 0)) (by (with_reducible repeat (first | refine bN ?_ _ | refine bD ?_ | refine bA ?_ _)); exact BK342.out)) : gb356 ≠ gb342))
           clear BK340 BK341 BK342 HB
           have BK340 := n0_; have BK341 := n1_; have BK342 := n2_; have HB := n3_; have BK356 := n4_; have GW356 := n5_; have GE356 := n6_; have NB340_356 := n7_; have NB356_340 := n8_; have NB341_356 := n9_; have NB356_341 := n10_; have NB342_356 := n11_; have NB356_342 := n12_
           clear n0_ n1_ n2_ n3_ n4_ n5_ n6_ n7_ n8_ n9_ n10_ n11_ n12_ hb hbox hg
           refine hK.out _ _ ⟨(bC BK340.out 0).trans rfl, (bC BK340.out 1).trans rfl, (bC BK340.out 2).trans rfl, (bC BK341.out 0).trans rfl, (bC BK341.out 1).trans rfl, (bC BK341.out 2).trans rfl⟩ (fun hHeld => ?_)
           clear hK K
           refine norm_ (a' := ?_) ?_ ?_
           rotate_left
           ·show Act.put _ (some 5) _ = _
            simp only [Act.put, List.setIfInBounds_toArray, List.set_cons_zero, List.set_cons_succ, i64_w, i32_w]
            rfl
           exact norm_ (by first | (simp only [putAll, Act.put, List.setIfInBounds_toArray, List.set_cons_zero, List.set_cons_succ]; done) | (simp only [putAll, Act.put, List.setIfInBounds_toArray, List.set_cons_zero, List.set_cons_succ]; rfl)) (hJ2_5_8_16 (gb356) _ ⟨hHeld, (by (with_reducible repeat (first | refine bN ?_ _ | refine bD ?_ | refine bA ?_ _)); exact BK340.out), (by (with_reducible repeat (first | refine bN ?_ _ | refine bD ?_ | refine bA ?_ _)); exact BK341.out), (by (with_reducible repeat (first | refine bN ?_ _ | refine bD ?_ | refine bA ?_ _)); exact BK342.out), (by (with_reducible repeat (first | refine bN ?_ _ | refine bD ?_ | refine bA ?_ _)); exact BK356.out), GW356.out, GE356.out, NB340_356.out, NB356_340.out, NB341_356.out, NB356_341.out, NB342_356.out, NB356_342.out, (by repeat (first | (with_reducible first | exact HB.out | apply lA | apply lN | apply lD | refine lS ?_ GE340.out | refine lS ?_ GE341.out | refine lS ?_ GE342.out | refine lS ?_ GE356.out) | exact HB.out))⟩)
        ·skip
         rintro gb356 w54 ⟨hS_, h0_, h1_, h2_, h3_, h4_, h5_, h6_, h7_, h8_, h9_, h10_, h11_, h12_⟩
         have n0_ : Aside0 (w54.heap[gb340]? = some (.cells #[.int .i64 a0_0, .int .i64 a0_1, .int .i64 a0_2] 26 (0, 0))) := ⟨h0_⟩
         have n1_ : Aside0 (w54.heap[gb341]? = some (.cells #[.int .i64 a1_0, .int .i64 a1_1, .int .i64 a1_2] 26 (0, 0))) := ⟨h1_⟩
         have n2_ : Aside0 (w54.heap[gb342]? = some (.cells #[.int .u64 0, .int .u64 0, .int .u64 0] 36 (0, 0))) := ⟨h2_⟩
         have n3_ : Aside0 (w54.heap[gb356]? = some (.cells #[.int .u64 0, .int .u64 0] 34 (0, 0))) := ⟨h3_⟩
         have n4_ : Aside0 (w.heap.size ≤ gb356) := ⟨h4_⟩
         have n5_ : Aside0 (w.heap.size ≤ gb356) := ⟨h5_⟩
         have n6_ : Aside0 (gb340 ≠ gb356) := ⟨h6_⟩
         have n7_ : Aside0 (gb356 ≠ gb340) := ⟨h7_⟩
         have n8_ : Aside0 (gb341 ≠ gb356) := ⟨h8_⟩
         have n9_ : Aside0 (gb356 ≠ gb341) := ⟨h9_⟩
         have n10_ : Aside0 (gb342 ≠ gb356) := ⟨h10_⟩
         have n11_ : Aside0 (gb356 ≠ gb342) := ⟨h11_⟩
         have n12_ : Aside0 (Below w.heap.size w w54) := ⟨h12_⟩
         clear BK340 BK341 BK342 HB h0_ h1_ h2_ h3_ h4_ h5_ h6_ h7_ h8_ h9_ h10_ h11_ h12_
         have BK340 := n0_; have BK341 := n1_; have BK342 := n2_; have BK356 := n3_; have GW356 := n4_; have GE356 := n5_; have NB340_356 := n6_; have NB356_340 := n7_; have NB341_356 := n8_; have NB356_341 := n9_; have NB342_356 := n10_; have NB356_342 := n11_; have HB := n12_
         clear n0_ n1_ n2_ n3_ n4_ n5_ n6_ n7_ n8_ n9_ n10_ n11_ n12_
         have hHeld : w54.cell? ⟨gb340, 0, none⟩ = some (.int .i64 a0_0) ∧ w54.cell? ⟨gb340, 1, none⟩ = some (.int .i64 a0_1) ∧ w54.cell? ⟨gb340, 2, none⟩ = some (.int .i64 a0_2) ∧ w54.cell? ⟨gb341, 0, none⟩ = some (.int .i64 a1_0) ∧ w54.cell? ⟨gb341, 1, none⟩ = some (.int .i64 a1_1) ∧ w54.cell? ⟨gb341, 2, none⟩ = some (.int .i64 a1_2) := hS_
         refine norm_ (a' := ?_) ?_ ?_
         rotate_left
         ·simp only [putAll, Act.put, List.setIfInBounds_toArray, List.set_cons_zero, List.set_cons_succ]
          rfl
         refine one_ (i := 11) (N := some 38) #[true, true, true, true, true, true, true, true, true, true, true, true, false, false, false, false, true, false, false] rfl rfl (one_of HT_.out (by kernel_rfl)) (by decide) (fun K hK => ?_)
         refine goes_ Try.func64 (by kernel_rfl) rfl #[.agg #[.int .u64 t349, .int .u64 t350], .int .i64 a0_0] (by rfl) rfl rfl (by (try simp only [List.map_toArray, List.map_cons, List.map_nil]); first | done | rfl | (simp only [List.length_drop, List.length_take]; rfl)) ?_
         with_reducible refine (hornbeamref15_times.calls kj2 t349 t350 a0_0 t351 t352 _ A47.out).mono ?_
         rintro e w55 ⟨rfl, hb⟩
         refine ⟨_, rfl, ?_⟩
         have n0_ := Aside0.mk (bB (g := gb340) (o := .cells #[.int .i64 a0_0, .int .i64 a0_1, .int .i64 a0_2] 26 (0, 0)) (by (with_reducible repeat (first | refine bN ?_ _ | refine bD ?_ | refine bA ?_ _)); exact BK340.out) hb)
         have n1_ := Aside0.mk (bB (g := gb341) (o := .cells #[.int .i64 a1_0, .int .i64 a1_1, .int .i64 a1_2] 26 (0, 0)) (by (with_reducible repeat (first | refine bN ?_ _ | refine bD ?_ | refine bA ?_ _)); exact BK341.out) hb)
         have n2_ := Aside0.mk (bB (g := gb342) (o := .cells #[.int .u64 0, .int .u64 0, .int .u64 0] 36 (0, 0)) (by (with_reducible repeat (first | refine bN ?_ _ | refine bD ?_ | refine bA ?_ _)); exact BK342.out) hb)
         have n3_ := Aside0.mk (bB (g := gb356) (o := .cells #[.int .u64 0, .int .u64 0] 34 (0, 0)) (by (with_reducible repeat (first | refine bN ?_ _ | refine bD ?_ | refine bA ?_ _)); exact BK356.out) hb)
         have n4_ := Aside0.mk (lP (by repeat (first | (with_reducible first | exact HB.out | apply lA | apply lN | apply lD | refine lS ?_ GE340.out | refine lS ?_ GE341.out | refine lS ?_ GE342.out | refine lS ?_ GE356.out) | exact HB.out)) hb)
         clear BK340 BK341 BK342 BK356 HB
         have BK340 := n0_; have BK341 := n1_; have BK342 := n2_; have BK356 := n3_; have HB := n4_
         clear n0_ n1_ n2_ n3_ n4_
         (try clear hb)
         (try clear hb2)
         (try clear hk)
         (try clear hi)
         refine hK.out _ _ ⟨(bC BK340.out 0).trans rfl, (bC BK340.out 1).trans rfl, (bC BK340.out 2).trans rfl, (bC BK341.out 0).trans rfl, (bC BK341.out 1).trans rfl, (bC BK341.out 2).trans rfl⟩ (fun hHeld => ?_)
         clear hK K
         refine norm_ (a' := ?_) ?_ ?_
         rotate_left
         ·show Act.put _ (some 38) _ = _
          simp only [Act.put, List.setIfInBounds_toArray, List.set_cons_zero, List.set_cons_succ, i64_w, i32_w]
          rfl
         exact norm_ (by first | (simp only [putAll, Act.put, List.setIfInBounds_toArray, List.set_cons_zero, List.set_cons_succ]; done) | (simp only [putAll, Act.put, List.setIfInBounds_toArray, List.set_cons_zero, List.set_cons_succ]; rfl)) (hJ2_5_8_11_16 (gb356) _ ⟨hHeld, (by (with_reducible repeat (first | refine bN ?_ _ | refine bD ?_ | refine bA ?_ _)); exact BK340.out), (by (with_reducible repeat (first | refine bN ?_ _ | refine bD ?_ | refine bA ?_ _)); exact BK341.out), (by (with_reducible repeat (first | refine bN ?_ _ | refine bD ?_ | refine bA ?_ _)); exact BK342.out), (by (with_reducible repeat (first | refine bN ?_ _ | refine bD ?_ | refine bA ?_ _)); exact BK356.out), GW356.out, GE356.out, NB340_356.out, NB356_340.out, NB341_356.out, NB356_341.out, NB342_356.out, NB356_342.out, (by repeat (first | (with_reducible first | exact HB.out | apply lA | apply lN | apply lD | refine lS ?_ GE340.out | refine lS ?_ GE341.out | refine lS ?_ GE342.out | refine lS ?_ GE356.out) | exact HB.out))⟩)
       ·skip
        rintro _ w54 ⟨hS_, h0_, h1_, h2_, h3_⟩
        have n0_ : Aside0 (w54.heap[gb340]? = some (.cells #[.int .i64 a0_0, .int .i64 a0_1, .int .i64 a0_2] 26 (0, 0))) := ⟨h0_⟩
        have n1_ : Aside0 (w54.heap[gb341]? = some (.cells #[.int .i64 a1_0, .int .i64 a1_1, .int .i64 a1_2] 26 (0, 0))) := ⟨h1_⟩
        have n2_ : Aside0 (w54.heap[gb342]? = some (.cells #[.int .u64 0, .int .u64 0, .int .u64 0] 36 (0, 0))) := ⟨h2_⟩
        have n3_ : Aside0 (Below w.heap.size w w54) := ⟨h3_⟩
        clear BK340 BK341 BK342 HB h0_ h1_ h2_ h3_
        have BK340 := n0_; have BK341 := n1_; have BK342 := n2_; have HB := n3_
        clear n0_ n1_ n2_ n3_
        have hHeld : w54.cell? ⟨gb340, 0, none⟩ = some (.int .i64 a0_0) ∧ w54.cell? ⟨gb340, 1, none⟩ = some (.int .i64 a0_1) ∧ w54.cell? ⟨gb340, 2, none⟩ = some (.int .i64 a0_2) ∧ w54.cell? ⟨gb341, 0, none⟩ = some (.int .i64 a1_0) ∧ w54.cell? ⟨gb341, 1, none⟩ = some (.int .i64 a1_1) ∧ w54.cell? ⟨gb341, 2, none⟩ = some (.int .i64 a1_2) := hS_
        refine norm_ (a' := ?_) ?_ ?_
        rotate_left
        ·simp only [putAll, Act.put, List.setIfInBounds_toArray, List.set_cons_zero, List.set_cons_succ]
         rfl
        refine two_ (i := 12) (j := 16) (Ni := some 39) (Nj := some 5) #[true, true, true, true, true, true, true, true, true, true, true, true, true, false, false, false, false, false, false] #[true, true, true, true, true, true, true, true, true, true, true, true, false, false, false, false, true, false, false] rfl rfl rfl rfl (two_of HT_.out (by kernel_rfl)) (by decide) (by decide) (fun K hK => ?_) (fun K hK => ?_)
        ·skip
         refine goes_ Try.func63 (by kernel_rfl) rfl #[.agg #[.int .u64 t347, .int .u64 t348], .agg #[.int .u64 t351, .int .u64 t352]] (by rfl) rfl rfl (by (try simp only [List.map_toArray, List.map_cons, List.map_nil]); first | done | rfl | (simp only [List.length_drop, List.length_take]; rfl)) ?_
         with_reducible refine (hornbeamref04_Add.calls kj2 t347 t348 t351 t352 t353 t354 t355 _ A48.out).mono ?_
         rintro e w55 ⟨rfl, hb⟩
         refine ⟨_, rfl, ?_⟩
         have n0_ := Aside0.mk (bB (g := gb340) (o := .cells #[.int .i64 a0_0, .int .i64 a0_1, .int .i64 a0_2] 26 (0, 0)) (by (with_reducible repeat (first | refine bN ?_ _ | refine bD ?_ | refine bA ?_ _)); exact BK340.out) hb)
         have n1_ := Aside0.mk (bB (g := gb341) (o := .cells #[.int .i64 a1_0, .int .i64 a1_1, .int .i64 a1_2] 26 (0, 0)) (by (with_reducible repeat (first | refine bN ?_ _ | refine bD ?_ | refine bA ?_ _)); exact BK341.out) hb)
         have n2_ := Aside0.mk (bB (g := gb342) (o := .cells #[.int .u64 0, .int .u64 0, .int .u64 0] 36 (0, 0)) (by (with_reducible repeat (first | refine bN ?_ _ | refine bD ?_ | refine bA ?_ _)); exact BK342.out) hb)
         have n3_ := Aside0.mk (lP (by repeat (first | (with_reducible first | exact HB.out | apply lA | apply lN | apply lD | refine lS ?_ GE340.out | refine lS ?_ GE341.out | refine lS ?_ GE342.out) | exact HB.out)) hb)
         clear BK340 BK341 BK342 HB
         have BK340 := n0_; have BK341 := n1_; have BK342 := n2_; have HB := n3_
         clear n0_ n1_ n2_ n3_
         (try clear hb)
         (try clear hb2)
         (try clear hk)
         (try clear hi)
         refine hK.out _ _ ⟨(bC BK340.out 0).trans rfl, (bC BK340.out 1).trans rfl, (bC BK340.out 2).trans rfl, (bC BK341.out 0).trans rfl, (bC BK341.out 1).trans rfl, (bC BK341.out 2).trans rfl⟩ (fun hHeld => ?_)
         clear hK K
         refine norm_ (a' := ?_) ?_ ?_
         rotate_left
         ·show Act.put _ (some 39) _ = _
          simp only [Act.put, List.setIfInBounds_toArray, List.set_cons_zero, List.set_cons_succ, i64_w, i32_w]
          rfl
         refine pure_ (i := 13) (N := some 26) (v := ?_) (a' := ?_) #[true, true, true, true, true, true, true, true, true, true, true, true, true, true, false, false, false, false, false] rfl rfl (any_of HT_.out (by kernel_rfl)) (fun _ _ _ h => h) (Or.inl ⟨by rfl, ?_⟩) ?_ ?_
         rotate_left
         ·intro w'
          go_simp
          with_reducible rfl
         rotate_left
         ·simp only [Act.put, List.setIfInBounds_toArray, List.set_cons_zero, List.set_cons_succ, i64_w, i32_w]
          rfl
         refine pure_ (i := 14) (N := some 40) (v := ?_) (a' := ?_) #[true, true, true, true, true, true, true, true, true, true, true, true, true, true, true, false, false, false, false] rfl rfl (any_of HT_.out (by kernel_rfl)) (fun _ _ _ h => h) (Or.inl ⟨by rfl, ?_⟩) ?_ ?_
         rotate_left
         ·intro w'
          go_simp
          with_reducible rfl
         rotate_left
         ·simp only [Act.put, List.setIfInBounds_toArray, List.set_cons_zero, List.set_cons_succ, i64_w, i32_w]
          rfl
         refine pure_ (i := 15) (N := some 41) (v := ?_) (a' := ?_) #[true, true, true, true, true, true, true, true, true, true, true, true, true, true, true, true, false, false, false] rfl rfl (any_of HT_.out (by kernel_rfl)) (fun _ _ _ h => h) (Or.inl ⟨by rfl, ?_⟩) ?_ ?_
         rotate_left
         ·intro w'
          go_simp
          with_reducible rfl
         rotate_left
         ·simp only [Act.put, List.setIfInBounds_toArray, List.set_cons_zero, List.set_cons_succ, i64_w, i32_w]
          rfl
         exact norm_ (by first | (simp only [putAll, Act.put, List.setIfInBounds_toArray, List.set_cons_zero, List.set_cons_succ]; done) | (simp only [putAll, Act.put, List.setIfInBounds_toArray, List.set_cons_zero, List.set_cons_succ]; rfl)) (hJ2_5_8_11_12 () _ ⟨hHeld, (by (with_reducible repeat (first | refine bN ?_ _ | refine bD ?_ | refine bA ?_ _)); exact BK340.out), (by (with_reducible repeat (first | refine bN ?_ _ | refine bD ?_ | refine bA ?_ _)); exact BK341.out), (by (with_reducible repeat (first | refine bN ?_ _ | refine bD ?_ | refine bA ?_ _)); exact BK342.out), (by repeat (first | (with_reducible first | exact HB.out | apply lA | apply lN | apply lD | refine lS ?_ GE340.out | refine lS ?_ GE341.out | refine lS ?_ GE342.out) | exact HB.out))⟩)
        ·skip
         refine box_step ?hg (N := 5) ?hd (cs := #[.int .u64 0, .int .u64 0]) (t := 34) ?hr ?_; (case hd => rfl); (case hg => rfl); (case hr => first | (go_simp; done) | (go_simp; rfl))
         intro gb356 hg w55 hbox hb
         have n0_ := Aside0.mk (bB (g := gb340) (o := .cells #[.int .i64 a0_0, .int .i64 a0_1, .int .i64 a0_2] 26 (0, 0)) (by (with_reducible repeat (first | refine bN ?_ _ | refine bD ?_ | refine bA ?_ _)); exact BK340.out) hb)
         have n1_ := Aside0.mk (bB (g := gb341) (o := .cells #[.int .i64 a1_0, .int .i64 a1_1, .int .i64 a1_2] 26 (0, 0)) (by (with_reducible repeat (first | refine bN ?_ _ | refine bD ?_ | refine bA ?_ _)); exact BK341.out) hb)
         have n2_ := Aside0.mk (bB (g := gb342) (o := .cells #[.int .u64 0, .int .u64 0, .int .u64 0] 36 (0, 0)) (by (with_reducible repeat (first | refine bN ?_ _ | refine bD ?_ | refine bA ?_ _)); exact BK342.out) hb)
         have n3_ := Aside0.mk (lP (by repeat (first | (with_reducible first | exact HB.out | apply lA | apply lN | apply lD | refine lS ?_ GE340.out | refine lS ?_ GE341.out | refine lS ?_ GE342.out) | exact HB.out)) hb)
         have n4_ := Aside0.mk (hbox)
         have n5_ := Aside0.mk ((by rw [hg]; exact (lZ (by repeat (first | (with_reducible first | exact HB.out | apply lA | apply lN | apply lD | refine lS ?_ GE340.out | refine lS ?_ GE341.out | refine lS ?_ GE342.out) | exact HB.out))) : w.heap.size ≤ gb356))
         have n6_ := Aside0.mk ((by rw [hg]; exact (lZ (by repeat (first | (with_reducible first | exact HB.out | apply lA | apply lN | apply lD | refine lS ?_ GE340.out | refine lS ?_ GE341.out | refine lS ?_ GE342.out) | exact HB.out))) : w.heap.size ≤ gb356))
         have n7_ := Aside0.mk ((by rw [hg]; exact Nat.ne_of_lt (bL (g := gb340) (o := .cells #[.int .i64 a0_0, .int .i64 a0_1, .int .i64 a0_2] 26 (0, 0)) (by (with_reducible repeat (first | refine bN ?_ _ | refine bD ?_ | refine bA ?_ _)); exact BK340.out)) : gb340 ≠ gb356))
         have n8_ := Aside0.mk ((by rw [hg]; exact Nat.ne_of_gt (bL (g := gb340) (o := .cells #[.int .i64 a0_0, .int .i64 a0_1, .int .i64 a0_2] 26 (0, 0)) (by (with_reducible repeat (first | refine bN ?_ _ | refine bD ?_ | refine bA ?_ _)); exact BK340.out)) : gb356 ≠ gb340))
         have n9_ := Aside0.mk ((by rw [hg]; exact Nat.ne_of_lt (bL (g := gb341) (o := .cells #[.int .i64 a1_0, .int .i64 a1_1, .int .i64 a1_2] 26 (0, 0)) (by (with_reducible repeat (first | refine bN ?_ _ | refine bD ?_ | refine bA ?_ _)); exact BK341.out)) : gb341 ≠ gb356))
         have n10_ := Aside0.mk ((by rw [hg]; exact Nat.ne_of_gt (bL (g := gb341) (o := .cells #[.int .i64 a1_0, .int .i64 a1_1, .int .i64 a1_2] 26 (0, 0)) (by (with_reducible repeat (first | refine bN ?_ _ | refine bD ?_ | refine bA ?_ _)); exact BK341.out)) : gb356 ≠ gb341))
         have n11_ := Aside0.mk ((by rw [hg]; exact Nat.ne_of_lt (bL (g := gb342) (o := .cells #[.int .u64 0, .int .u64 0, .int .u64 0] 36 (0, 0)) (by (with_reducible repeat (first | refine bN ?_ _ | refine bD ?_ | refine bA ?_ _)); exact BK342.out)) : gb342 ≠ gb356))
         have n12_ := Aside0.mk ((by rw [hg]; exact Nat.ne_of_gt (bL (g := gb342) (o := .cells #[.int .u64 0, .int .u64 0, .int .u64 0] 36 (0, 0)) (by (with_reducible repeat (first | refine bN ?_ _ | refine bD ?_ | refine bA ?_ _)); exact BK342.out)) : gb356 ≠ gb342))
         clear BK340 BK341 BK342 HB
         have BK340 := n0_; have BK341 := n1_; have BK342 := n2_; have HB := n3_; have BK356 := n4_; have GW356 := n5_; have GE356 := n6_; have NB340_356 := n7_; have NB356_340 := n8_; have NB341_356 := n9_; have NB356_341 := n10_; have NB342_356 := n11_; have NB356_342 := n12_
         clear n0_ n1_ n2_ n3_ n4_ n5_ n6_ n7_ n8_ n9_ n10_ n11_ n12_ hb hbox hg
         refine hK.out _ _ ⟨(bC BK340.out 0).trans rfl, (bC BK340.out 1).trans rfl, (bC BK340.out 2).trans rfl, (bC BK341.out 0).trans rfl, (bC BK341.out 1).trans rfl, (bC BK341.out 2).trans rfl⟩ (fun hHeld => ?_)
         clear hK K
         refine norm_ (a' := ?_) ?_ ?_
         rotate_left
         ·show Act.put _ (some 5) _ = _
          simp only [Act.put, List.setIfInBounds_toArray, List.set_cons_zero, List.set_cons_succ, i64_w, i32_w]
          rfl
         exact norm_ (by first | (simp only [putAll, Act.put, List.setIfInBounds_toArray, List.set_cons_zero, List.set_cons_succ]; done) | (simp only [putAll, Act.put, List.setIfInBounds_toArray, List.set_cons_zero, List.set_cons_succ]; rfl)) (hJ2_5_8_11_16 (gb356) _ ⟨hHeld, (by (with_reducible repeat (first | refine bN ?_ _ | refine bD ?_ | refine bA ?_ _)); exact BK340.out), (by (with_reducible repeat (first | refine bN ?_ _ | refine bD ?_ | refine bA ?_ _)); exact BK341.out), (by (with_reducible repeat (first | refine bN ?_ _ | refine bD ?_ | refine bA ?_ _)); exact BK342.out), (by (with_reducible repeat (first | refine bN ?_ _ | refine bD ?_ | refine bA ?_ _)); exact BK356.out), GW356.out, GE356.out, NB340_356.out, NB356_340.out, NB341_356.out, NB356_341.out, NB342_356.out, NB356_342.out, (by repeat (first | (with_reducible first | exact HB.out | apply lA | apply lN | apply lD | refine lS ?_ GE340.out | refine lS ?_ GE341.out | refine lS ?_ GE342.out | refine lS ?_ GE356.out) | exact HB.out))⟩)
      ·skip
       rintro gb356 w55 ⟨hS_, h0_, h1_, h2_, h3_, h4_, h5_, h6_, h7_, h8_, h9_, h10_, h11_, h12_⟩
       have n0_ : Aside0 (w55.heap[gb340]? = some (.cells #[.int .i64 a0_0, .int .i64 a0_1, .int .i64 a0_2] 26 (0, 0))) := ⟨h0_⟩
       have n1_ : Aside0 (w55.heap[gb341]? = some (.cells #[.int .i64 a1_0, .int .i64 a1_1, .int .i64 a1_2] 26 (0, 0))) := ⟨h1_⟩
       have n2_ : Aside0 (w55.heap[gb342]? = some (.cells #[.int .u64 0, .int .u64 0, .int .u64 0] 36 (0, 0))) := ⟨h2_⟩
       have n3_ : Aside0 (w55.heap[gb356]? = some (.cells #[.int .u64 0, .int .u64 0] 34 (0, 0))) := ⟨h3_⟩
       have n4_ : Aside0 (w.heap.size ≤ gb356) := ⟨h4_⟩
       have n5_ : Aside0 (w.heap.size ≤ gb356) := ⟨h5_⟩
       have n6_ : Aside0 (gb340 ≠ gb356) := ⟨h6_⟩
       have n7_ : Aside0 (gb356 ≠ gb340) := ⟨h7_⟩
       have n8_ : Aside0 (gb341 ≠ gb356) := ⟨h8_⟩
       have n9_ : Aside0 (gb356 ≠ gb341) := ⟨h9_⟩
       have n10_ : Aside0 (gb342 ≠ gb356) := ⟨h10_⟩
       have n11_ : Aside0 (gb356 ≠ gb342) := ⟨h11_⟩
       have n12_ : Aside0 (Below w.heap.size w w55) := ⟨h12_⟩
       clear BK340 BK341 BK342 HB h0_ h1_ h2_ h3_ h4_ h5_ h6_ h7_ h8_ h9_ h10_ h11_ h12_
       have BK340 := n0_; have BK341 := n1_; have BK342 := n2_; have BK356 := n3_; have GW356 := n4_; have GE356 := n5_; have NB340_356 := n6_; have NB356_340 := n7_; have NB341_356 := n8_; have NB356_341 := n9_; have NB342_356 := n10_; have NB356_342 := n11_; have HB := n12_
       clear n0_ n1_ n2_ n3_ n4_ n5_ n6_ n7_ n8_ n9_ n10_ n11_ n12_
       have hHeld : w55.cell? ⟨gb340, 0, none⟩ = some (.int .i64 a0_0) ∧ w55.cell? ⟨gb340, 1, none⟩ = some (.int .i64 a0_1) ∧ w55.cell? ⟨gb340, 2, none⟩ = some (.int .i64 a0_2) ∧ w55.cell? ⟨gb341, 0, none⟩ = some (.int .i64 a1_0) ∧ w55.cell? ⟨gb341, 1, none⟩ = some (.int .i64 a1_1) ∧ w55.cell? ⟨gb341, 2, none⟩ = some (.int .i64 a1_2) := hS_
       refine norm_ (a' := ?_) ?_ ?_
       rotate_left
       ·simp only [putAll, Act.put, List.setIfInBounds_toArray, List.set_cons_zero, List.set_cons_succ]
        rfl
       refine one_ (i := 12) (N := some 39) #[true, true, true, true, true, true, true, true, true, true, true, true, true, false, false, false, true, false, false] rfl rfl (one_of HT_.out (by kernel_rfl)) (by decide) (fun K hK => ?_)
       refine goes_ Try.func63 (by kernel_rfl) rfl #[.agg #[.int .u64 t347, .int .u64 t348], .agg #[.int .u64 t351, .int .u64 t352]] (by rfl) rfl rfl (by (try simp only [List.map_toArray, List.map_cons, List.map_nil]); first | done | rfl | (simp only [List.length_drop, List.length_take]; rfl)) ?_
       with_reducible refine (hornbeamref04_Add.calls kj2 t347 t348 t351 t352 t353 t354 t355 _ A48.out).mono ?_
       rintro e w56 ⟨rfl, hb⟩
       refine ⟨_, rfl, ?_⟩
       have n0_ := Aside0.mk (bB (g := gb340) (o := .cells #[.int .i64 a0_0, .int .i64 a0_1, .int .i64 a0_2] 26 (0, 0)) (by (with_reducible repeat (first | refine bN ?_ _ | refine bD ?_ | refine bA ?_ _)); exact BK340.out) hb)
       have n1_ := Aside0.mk (bB (g := gb341) (o := .cells #[.int .i64 a1_0, .int .i64 a1_1, .int .i64 a1_2] 26 (0, 0)) (by (with_reducible repeat (first | refine bN ?_ _ | refine bD ?_ | refine bA ?_ _)); exact BK341.out) hb)
       have n2_ := Aside0.mk (bB (g := gb342) (o := .cells #[.int .u64 0, .int .u64 0, .int .u64 0] 36 (0, 0)) (by (with_reducible repeat (first | refine bN ?_ _ | refine bD ?_ | refine bA ?_ _)); exact BK342.out) hb)
       have n3_ := Aside0.mk (bB (g := gb356) (o := .cells #[.int .u64 0, .int .u64 0] 34 (0, 0)) (by (with_reducible repeat (first | refine bN ?_ _ | refine bD ?_ | refine bA ?_ _)); exact BK356.out) hb)
       have n4_ := Aside0.mk (lP (by repeat (first | (with_reducible first | exact HB.out | apply lA | apply lN | apply lD | refine lS ?_ GE340.out | refine lS ?_ GE341.out | refine lS ?_ GE342.out | refine lS ?_ GE356.out) | exact HB.out)) hb)
       clear BK340 BK341 BK342 BK356 HB
       have BK340 := n0_; have BK341 := n1_; have BK342 := n2_; have BK356 := n3_; have HB := n4_
       clear n0_ n1_ n2_ n3_ n4_
       (try clear hb)
       (try clear hb2)
       (try clear hk)
       (try clear hi)
       refine hK.out _ _ ⟨(bC BK340.out 0).trans rfl, (bC BK340.out 1).trans rfl, (bC BK340.out 2).trans rfl, (bC BK341.out 0).trans rfl, (bC BK341.out 1).trans rfl, (bC BK341.out 2).trans rfl⟩ (fun hHeld => ?_)
       clear hK K
       refine norm_ (a' := ?_) ?_ ?_
       rotate_left
       ·show Act.put _ (some 39) _ = _
        simp only [Act.put, List.setIfInBounds_toArray, List.set_cons_zero, List.set_cons_succ, i64_w, i32_w]
        rfl
       refine pure_ (i := 13) (N := some 26) (v := ?_) (a' := ?_) #[true, true, true, true, true, true, true, true, true, true, true, true, true, true, false, false, true, false, false] rfl rfl (any_of HT_.out (by kernel_rfl)) (fun _ _ _ h => h) (Or.inl ⟨by rfl, ?_⟩) ?_ ?_
       rotate_left
       ·intro w'
        go_simp
        with_reducible rfl
       rotate_left
       ·simp only [Act.put, List.setIfInBounds_toArray, List.set_cons_zero, List.set_cons_succ, i64_w, i32_w]
        rfl
       refine pure_ (i := 14) (N := some 40) (v := ?_) (a' := ?_) #[true, true, true, true, true, true, true, true, true, true, true, true, true, true, true, false, true, false, false] rfl rfl (any_of HT_.out (by kernel_rfl)) (fun _ _ _ h => h) (Or.inl ⟨by rfl, ?_⟩) ?_ ?_
       rotate_left
       ·intro w'
        go_simp
        with_reducible rfl
       rotate_left
       ·simp only [Act.put, List.setIfInBounds_toArray, List.set_cons_zero, List.set_cons_succ, i64_w, i32_w]
        rfl
       refine pure_ (i := 15) (N := some 41) (v := ?_) (a' := ?_) #[true, true, true, true, true, true, true, true, true, true, true, true, true, true, true, true, true, false, false] rfl rfl (any_of HT_.out (by kernel_rfl)) (fun _ _ _ h => h) (Or.inl ⟨by rfl, ?_⟩) ?_ ?_
       rotate_left
       ·intro w'
        go_simp
        with_reducible rfl
       rotate_left
       ·simp only [Act.put, List.setIfInBounds_toArray, List.set_cons_zero, List.set_cons_succ, i64_w, i32_w]
        rfl
       exact norm_ (by first | (simp only [putAll, Act.put, List.setIfInBounds_toArray, List.set_cons_zero, List.set_cons_succ]; done) | (simp only [putAll, Act.put, List.setIfInBounds_toArray, List.set_cons_zero, List.set_cons_succ]; rfl)) (hJ2_5_8_11_12_16 (gb356) _ ⟨hHeld, (by (with_reducible repeat (first | refine bN ?_ _ | refine bD ?_ | refine bA ?_ _)); exact BK340.out), (by (with_reducible repeat (first | refine bN ?_ _ | refine bD ?_ | refine bA ?_ _)); exact BK341.out), (by (with_reducible repeat (first | refine bN ?_ _ | refine bD ?_ | refine bA ?_ _)); exact BK342.out), (by (with_reducible repeat (first | refine bN ?_ _ | refine bD ?_ | refine bA ?_ _)); exact BK356.out), GW356.out, GE356.out, NB340_356.out, NB356_340.out, NB341_356.out, NB356_341.out, NB342_356.out, NB356_342.out, (by repeat (first | (with_reducible first | exact HB.out | apply lA | apply lN | apply lD | refine lS ?_ GE340.out | refine lS ?_ GE341.out | refine lS ?_ GE342.out | refine lS ?_ GE356.out) | exact HB.out))⟩)
     ·skip
      rintro _ w55 ⟨hS_, h0_, h1_, h2_, h3_⟩
      have n0_ : Aside0 (w55.heap[gb340]? = some (.cells #[.int .i64 a0_0, .int .i64 a0_1, .int .i64 a0_2] 26 (0, 0))) := ⟨h0_⟩
      have n1_ : Aside0 (w55.heap[gb341]? = some (.cells #[.int .i64 a1_0, .int .i64 a1_1, .int .i64 a1_2] 26 (0, 0))) := ⟨h1_⟩
      have n2_ : Aside0 (w55.heap[gb342]? = some (.cells #[.int .u64 0, .int .u64 0, .int .u64 0] 36 (0, 0))) := ⟨h2_⟩
      have n3_ : Aside0 (Below w.heap.size w w55) := ⟨h3_⟩
      clear BK340 BK341 BK342 HB h0_ h1_ h2_ h3_
      have BK340 := n0_; have BK341 := n1_; have BK342 := n2_; have HB := n3_
      clear n0_ n1_ n2_ n3_
      have hHeld : w55.cell? ⟨gb340, 0, none⟩ = some (.int .i64 a0_0) ∧ w55.cell? ⟨gb340, 1, none⟩ = some (.int .i64 a0_1) ∧ w55.cell? ⟨gb340, 2, none⟩ = some (.int .i64 a0_2) ∧ w55.cell? ⟨gb341, 0, none⟩ = some (.int .i64 a1_0) ∧ w55.cell? ⟨gb341, 1, none⟩ = some (.int .i64 a1_1) ∧ w55.cell? ⟨gb341, 2, none⟩ = some (.int .i64 a1_2) := hS_
      refine norm_ (a' := ?_) ?_ ?_
      rotate_left
      ·simp only [putAll, Act.put, List.setIfInBounds_toArray, List.set_cons_zero, List.set_cons_succ]
       rfl
      refine one_ (i := 16) (N := some 5) #[true, true, true, true, true, true, true, true, true, true, true, true, true, true, true, true, true, false, false] rfl rfl (one_of HT_.out (by kernel_rfl)) (by decide) (fun K hK => ?_)
      refine box_step ?hg (N := 5) ?hd (cs := #[.int .u64 0, .int .u64 0]) (t := 34) ?hr ?_; (case hd => rfl); (case hg => rfl); (case hr => first | (go_simp; done) | (go_simp; rfl))
      intro gb356 hg w56 hbox hb
      have n0_ := Aside0.mk (bB (g := gb340) (o := .cells #[.int .i64 a0_0, .int .i64 a0_1, .int .i64 a0_2] 26 (0, 0)) (by (with_reducible repeat (first | refine bN ?_ _ | refine bD ?_ | refine bA ?_ _)); exact BK340.out) hb)
      have n1_ := Aside0.mk (bB (g := gb341) (o := .cells #[.int .i64 a1_0, .int .i64 a1_1, .int .i64 a1_2] 26 (0, 0)) (by (with_reducible repeat (first | refine bN ?_ _ | refine bD ?_ | refine bA ?_ _)); exact BK341.out) hb)
      have n2_ := Aside0.mk (bB (g := gb342) (o := .cells #[.int .u64 0, .int .u64 0, .int .u64 0] 36 (0, 0)) (by (with_reducible repeat (first | refine bN ?_ _ | refine bD ?_ | refine bA ?_ _)); exact BK342.out) hb)
      have n3_ := Aside0.mk (lP (by repeat (first | (with_reducible first | exact HB.out | apply lA | apply lN | apply lD | refine lS ?_ GE340.out | refine lS ?_ GE341.out | refine lS ?_ GE342.out) | exact HB.out)) hb)
      have n4_ := Aside0.mk (hbox)
      have n5_ := Aside0.mk ((by rw [hg]; exact (lZ (by repeat (first | (with_reducible first | exact HB.out | apply lA | apply lN | apply lD | refine lS ?_ GE340.out | refine lS ?_ GE341.out | refine lS ?_ GE342.out) | exact HB.out))) : w.heap.size ≤ gb356))
      have n6_ := Aside0.mk ((by rw [hg]; exact (lZ (by repeat (first | (with_reducible first | exact HB.out | apply lA | apply lN | apply lD | refine lS ?_ GE340.out | refine lS ?_ GE341.out | refine lS ?_ GE342.out) | exact HB.out))) : w.heap.size ≤ gb356))
      have n7_ := Aside0.mk ((by rw [hg]; exact Nat.ne_of_lt (bL (g := gb340) (o := .cells #[.int .i64 a0_0, .int .i64 a0_1, .int .i64 a0_2] 26 (0, 0)) (by (with_reducible repeat (first | refine bN ?_ _ | refine bD ?_ | refine bA ?_ _)); exact BK340.out)) : gb340 ≠ gb356))
      have n8_ := Aside0.mk ((by rw [hg]; exact Nat.ne_of_gt (bL (g := gb340) (o := .cells #[.int .i64 a0_0, .int .i64 a0_1, .int .i64 a0_2] 26 (0, 0)) (by (with_reducible repeat (first | refine bN ?_ _ | refine bD ?_ | refine bA ?_ _)); exact BK340.out)) : gb356 ≠ gb340))
      have n9_ := Aside0.mk ((by rw [hg]; exact Nat.ne_of_lt (bL (g := gb341) (o := .cells #[.int .i64 a1_0, .int .i64 a1_1, .int .i64 a1_2] 26 (0, 0)) (by (with_reducible repeat (first | refine bN ?_ _ | refine bD ?_ | refine bA ?_ _)); exact BK341.out)) : gb341 ≠ gb356))
      have n10_ := Aside0.mk ((by rw [hg]; exact Nat.ne_of_gt (bL (g := gb341) (o := .cells #[.int .i64 a1_0, .int .i64 a1_1, .int .i64 a1_2] 26 (0, 0)) (by (with_reducible repeat (first | refine bN ?_ _ | refine bD ?_ | refine bA ?_ _)); exact BK341.out)) : gb356 ≠ gb341))
      have n11_ := Aside0.mk ((by rw [hg]; exact Nat.ne_of_lt (bL (g := gb342) (o := .cells #[.int .u64 0, .int .u64 0, .int .u64 0] 36 (0, 0)) (by (with_reducible repeat (first | refine bN ?_ _ | refine bD ?_ | refine bA ?_ _)); exact BK342.out)) : gb342 ≠ gb356))
      have n12_ := Aside0.mk ((by rw [hg]; exact Nat.ne_of_gt (bL (g := gb342) (o := .cells #[.int .u64 0, .int .u64 0, .int .u64 0] 36 (0, 0)) (by (with_reducible repeat (first | refine bN ?_ _ | refine bD ?_ | refine bA ?_ _)); exact BK342.out)) : gb356 ≠ gb342))
      clear BK340 BK341 BK342 HB
      have BK340 := n0_; have BK341 := n1_; have BK342 := n2_; have HB := n3_; have BK356 := n4_; have GW356 := n5_; have GE356 := n6_; have NB340_356 := n7_; have NB356_340 := n8_; have NB341_356 := n9_; have NB356_341 := n10_; have NB342_356 := n11_; have NB356_342 := n12_
      clear n0_ n1_ n2_ n3_ n4_ n5_ n6_ n7_ n8_ n9_ n10_ n11_ n12_ hb hbox hg
      refine hK.out _ _ ⟨(bC BK340.out 0).trans rfl, (bC BK340.out 1).trans rfl, (bC BK340.out 2).trans rfl, (bC BK341.out 0).trans rfl, (bC BK341.out 1).trans rfl, (bC BK341.out 2).trans rfl⟩ (fun hHeld => ?_)
      clear hK K
      refine norm_ (a' := ?_) ?_ ?_
      rotate_left
      ·show Act.put _ (some 5) _ = _
       simp only [Act.put, List.setIfInBounds_toArray, List.set_cons_zero, List.set_cons_succ, i64_w, i32_w]
       rfl
      exact norm_ (by first | (simp only [putAll, Act.put, List.setIfInBounds_toArray, List.set_cons_zero, List.set_cons_succ]; done) | (simp only [putAll, Act.put, List.setIfInBounds_toArray, List.set_cons_zero, List.set_cons_succ]; rfl)) (hJ2_5_8_11_12_16 (gb356) _ ⟨hHeld, (by (with_reducible repeat (first | refine bN ?_ _ | refine bD ?_ | refine bA ?_ _)); exact BK340.out), (by (with_reducible repeat (first | refine bN ?_ _ | refine bD ?_ | refine bA ?_ _)); exact BK341.out), (by (with_reducible repeat (first | refine bN ?_ _ | refine bD ?_ | refine bA ?_ _)); exact BK342.out), (by (with_reducible repeat (first | refine bN ?_ _ | refine bD ?_ | refine bA ?_ _)); exact BK356.out), GW356.out, GE356.out, NB340_356.out, NB356_340.out, NB341_356.out, NB356_341.out, NB342_356.out, NB356_342.out, (by repeat (first | (with_reducible first | exact HB.out | apply lA | apply lN | apply lD | refine lS ?_ GE340.out | refine lS ?_ GE341.out | refine lS ?_ GE342.out | refine lS ?_ GE356.out) | exact HB.out))⟩)
    rintro gb356 w56 ⟨hS_, h0_, h1_, h2_, h3_, h4_, h5_, h6_, h7_, h8_, h9_, h10_, h11_, h12_⟩
    have n0_ : Aside0 (w56.heap[gb340]? = some (.cells #[.int .i64 a0_0, .int .i64 a0_1, .int .i64 a0_2] 26 (0, 0))) := ⟨h0_⟩
    have n1_ : Aside0 (w56.heap[gb341]? = some (.cells #[.int .i64 a1_0, .int .i64 a1_1, .int .i64 a1_2] 26 (0, 0))) := ⟨h1_⟩
    have n2_ : Aside0 (w56.heap[gb342]? = some (.cells #[.int .u64 0, .int .u64 0, .int .u64 0] 36 (0, 0))) := ⟨h2_⟩
    have n3_ : Aside0 (w56.heap[gb356]? = some (.cells #[.int .u64 0, .int .u64 0] 34 (0, 0))) := ⟨h3_⟩
    have n4_ : Aside0 (w.heap.size ≤ gb356) := ⟨h4_⟩
    have n5_ : Aside0 (w.heap.size ≤ gb356) := ⟨h5_⟩
    have n6_ : Aside0 (gb340 ≠ gb356) := ⟨h6_⟩
    have n7_ : Aside0 (gb356 ≠ gb340) := ⟨h7_⟩
    have n8_ : Aside0 (gb341 ≠ gb356) := ⟨h8_⟩
    have n9_ : Aside0 (gb356 ≠ gb341) := ⟨h9_⟩
    have n10_ : Aside0 (gb342 ≠ gb356) := ⟨h10_⟩
    have n11_ : Aside0 (gb356 ≠ gb342) := ⟨h11_⟩
    have n12_ : Aside0 (Below w.heap.size w w56) := ⟨h12_⟩
    clear BK340 BK341 BK342 HB h0_ h1_ h2_ h3_ h4_ h5_ h6_ h7_ h8_ h9_ h10_ h11_ h12_
    have BK340 := n0_; have BK341 := n1_; have BK342 := n2_; have BK356 := n3_; have GW356 := n4_; have GE356 := n5_; have NB340_356 := n6_; have NB356_340 := n7_; have NB341_356 := n8_; have NB356_341 := n9_; have NB342_356 := n10_; have NB356_342 := n11_; have HB := n12_
    clear n0_ n1_ n2_ n3_ n4_ n5_ n6_ n7_ n8_ n9_ n10_ n11_ n12_
    have hHeld : w56.cell? ⟨gb340, 0, none⟩ = some (.int .i64 a0_0) ∧ w56.cell? ⟨gb340, 1, none⟩ = some (.int .i64 a0_1) ∧ w56.cell? ⟨gb340, 2, none⟩ = some (.int .i64 a0_2) ∧ w56.cell? ⟨gb341, 0, none⟩ = some (.int .i64 a1_0) ∧ w56.cell? ⟨gb341, 1, none⟩ = some (.int .i64 a1_1) ∧ w56.cell? ⟨gb341, 2, none⟩ = some (.int .i64 a1_2) := hS_
    refine norm_ (a' := ?_) ?_ ?_
    rotate_left
    ·simp only [putAll, Act.put, List.setIfInBounds_toArray, List.set_cons_zero, List.set_cons_succ]
     rfl
    refine one_ (i := 17) (N := none) #[true, true, true, true, true, true, true, true, true, true, true, true, true, true, true, true, true, true, false] rfl rfl (one_of HT_.out (by kernel_rfl)) (by decide) (fun K hK => ?_)
    have hs57 : w56.cell? ⟨gb356, 0, none⟩ = some (.int .u64 0) := (bC BK356.out 0).trans rfl
    have hfs57 := bF BK356.out 0
    have hns57_0 := NB340_356.out
    have hns57_1 := NB341_356.out
    have hns57_2 := NB342_356.out
    have hms57_0 := NB356_340.out
    have hms57_1 := NB356_341.out
    have hms57_2 := NB356_342.out
    have hs58 : w56.cell? ⟨gb356, 1, none⟩ = some (.int .u64 0) := (bC BK356.out 1).trans rfl
    have hfs58 := bF BK356.out 1
    have hns58_0 := NB340_356.out
    have hns58_1 := NB341_356.out
    have hns58_2 := NB342_356.out
    have hms58_0 := NB356_340.out
    have hms58_1 := NB356_341.out
    have hms58_2 := NB356_342.out
    refine skip_ (w1 := ?_) (by rfl) rfl ?_ ?_
    rotate_left
    ·go_simp
     rfl
    refine hK.out _ _ ⟨((cell_far (p := ⟨gb356, _, none⟩) NB340_356.out _).trans (((cell_far (p := ⟨gb356, _, none⟩) NB340_356.out _).trans (hHeld.1)))), ((cell_far (p := ⟨gb356, _, none⟩) NB340_356.out _).trans (((cell_far (p := ⟨gb356, _, none⟩) NB340_356.out _).trans (hHeld.2.1)))), ((cell_far (p := ⟨gb356, _, none⟩) NB340_356.out _).trans (((cell_far (p := ⟨gb356, _, none⟩) NB340_356.out _).trans (hHeld.2.2.1)))), ((cell_far (p := ⟨gb356, _, none⟩) NB341_356.out _).trans (((cell_far (p := ⟨gb356, _, none⟩) NB341_356.out _).trans (hHeld.2.2.2.1)))), ((cell_far (p := ⟨gb356, _, none⟩) NB341_356.out _).trans (((cell_far (p := ⟨gb356, _, none⟩) NB341_356.out _).trans (hHeld.2.2.2.2.1)))), ((cell_far (p := ⟨gb356, _, none⟩) NB341_356.out _).trans (((cell_far (p := ⟨gb356, _, none⟩) NB341_356.out _).trans (hHeld.2.2.2.2.2))))⟩ (fun hHeld => ?_)
    clear hK K
    refine pure_ (i := 18) (N := some 6) (v := ?_) (a' := ?_) #[true, true, true, true, true, true, true, true, true, true, true, true, true, true, true, true, true, true, true] rfl rfl (any_of HT_.out (by kernel_rfl)) (fun _ _ _ h => h) (Or.inl ⟨by rfl, ?_⟩) ?_ ?_
    rotate_left
    ·intro w'
     go_simp
     with_reducible rfl
    rotate_left
    ·simp only [Act.put, List.setIfInBounds_toArray, List.set_cons_zero, List.set_cons_succ, i64_w, i32_w]
     rfl
    refine done_ (done_of HT_.out (by kernel_rfl)) ?_
    have hnb59 := NB356_340.out
    have hnc59 := NB340_356.out
    have hnb60 := NB356_341.out
    have hnc60 := NB341_356.out
    have hnb61 := NB356_342.out
    have hnc61 := NB342_356.out
    have hcz62_0 : w56.cell? ⟨gb356, 0, none⟩ = some (.int .u64 0) := (bC BK356.out 0).trans rfl
    have hcz62_1 : w56.cell? ⟨gb356, 1, none⟩ = some (.int .u64 0) := (bC BK356.out 1).trans rfl
    have hfz62_0 := bF BK356.out 0
    have hfz62_1 := bF BK356.out 1
    have hnb63 := NB340_341.out
    have hnc63 := NB341_340.out
    have hnb64 := NB340_342.out
    have hnc64 := NB342_340.out
    have hcz65_0 : w56.cell? ⟨gb340, 0, none⟩ = some (.int .i64 a0_0) := (bC BK340.out 0).trans rfl
    have hcz65_1 : w56.cell? ⟨gb340, 1, none⟩ = some (.int .i64 a0_1) := (bC BK340.out 1).trans rfl
    have hcz65_2 : w56.cell? ⟨gb340, 2, none⟩ = some (.int .i64 a0_2) := (bC BK340.out 2).trans rfl
    have hfz65_0 := bF BK340.out 0
    have hfz65_1 := bF BK340.out 1
    have hfz65_2 := bF BK340.out 2
    have hnb66 := NB341_342.out
    have hnc66 := NB342_341.out
    have hcz67_0 : w56.cell? ⟨gb341, 0, none⟩ = some (.int .i64 a1_0) := (bC BK341.out 0).trans rfl
    have hcz67_1 : w56.cell? ⟨gb341, 1, none⟩ = some (.int .i64 a1_1) := (bC BK341.out 1).trans rfl
    have hcz67_2 : w56.cell? ⟨gb341, 2, none⟩ = some (.int .i64 a1_2) := (bC BK341.out 2).trans rfl
    have hfz67_0 := bF BK341.out 0
    have hfz67_1 := bF BK341.out 1
    have hfz67_2 := bF BK341.out 2
    have hcz68_0 : w56.cell? ⟨gb342, 0, none⟩ = some (.int .u64 0) := (bC BK342.out 0).trans rfl
    have hcz68_1 : w56.cell? ⟨gb342, 1, none⟩ = some (.int .u64 0) := (bC BK342.out 1).trans rfl
    have hcz68_2 : w56.cell? ⟨gb342, 2, none⟩ = some (.int .u64 0) := (bC BK342.out 2).trans rfl
    have hfz68_0 := bF BK342.out 0
    have hfz68_1 := bF BK342.out 1
    have hfz68_2 := bF BK342.out 2
    try go_wp2
    refine bodyPost_ret (results_cell_row rfl _ _ gb342 36 #[.int .u64 t353, .int .u64 t354, .int .u64 (IntKind.u64.wrap (wrap64 (a0_0 * a1_0)))] (0, 0) _ rfl (by (with_reducible repeat (first | refine bN ?_ _ | refine bD ?_ | refine bA ?_ _)); refine blk_put (cs := #[.int .u64 t353, .int .u64 t354, .int .u64 0]) ?_ 2 _ rfl; (with_reducible repeat (first | refine bN ?_ _ | refine bD ?_ | refine bA ?_ _)); refine blk_put (cs := #[.int .u64 t353, .int .u64 0, .int .u64 0]) ?_ 1 _ rfl; (with_reducible repeat (first | refine bN ?_ _ | refine bD ?_ | refine bA ?_ _)); refine blk_put (cs := #[.int .u64 0, .int .u64 0, .int .u64 0]) ?_ 0 _ rfl; (with_reducible repeat (first | refine bN ?_ _ | refine bD ?_ | refine bA ?_ _)); refine blk_far ?_ NB342_356.out _; (with_reducible repeat (first | refine bN ?_ _ | refine bD ?_ | refine bA ?_ _)); refine blk_far ?_ NB342_356.out _; (with_reducible repeat (first | refine bN ?_ _ | refine bD ?_ | refine bA ?_ _)); exact BK342.out) Try.underlying36 rfl (by kernel_rfl)) rfl ?_
    exact ⟨by first | rfl | (simp [errW_none, errW_some] <;> rfl) | (simp [*, errW_none, errW_some] <;> rfl), by repeat (first | (with_reducible first | exact HB.out | apply lA | apply lN | apply lD | refine lS ?_ GE340.out | refine lS ?_ GE341.out | refine lS ?_ GE342.out | refine lS ?_ GE356.out) | exact HB.out)⟩

end Go.Proofs.Ytoonddgldmfleaa.QSpreadScores
