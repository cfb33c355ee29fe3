-- Written by a program of this session (wip/tools/mkprint.py over the kit's print); Lean checks it.
import Derived.Test.YtancajnbjmcamaaQSplitLeafx0
import Derived.Test.YtancajnbjmcamaaQSplitLeafx9
import Derived.Test.YtancajnbjmcamaaQSplitLeafx11
import Derived.Test.YtancajnbjmcamaaQSplitLeafx13
namespace Go.Proofs.Ytancajnbjmcamaa.QSplitLeaf
open Go.RowKit Go.Proofs.YtancajnbjmcamaaW.PrintWords Go.Proofs.YtancajnbjmcamaaW.PrintLast Go.Proofs.YtancajnbjmcamaaW.PrintMore
attribute [local go_sem] max2_int min2_int max_two min_two max_three min_three max_four min_four   -- for this text's walks alone
set_option linter.unusedVariables false
set_option linter.unusedSimpArgs false

/-! ### split_Best: function 13 -/
mutual
def split_Best.l0 : Nat → List Int → List (S25) → Int → List (S25) → Int → Int → Option (Bool × Int × Int × Int × Int × Int × Int)
 | 0, _, _, _, _, _, _ => none
 | k + 1, x0, x1, x2, x22, x23, x24 => if x24 < x23 then (if 0 ≤ x24 then (if x24 < (x22.length : Int) then ((hist_Right.f ((rd_T25 x22 x24).f0) ((rd_T25 x22 x24).f1) ((rd_T25 x22 x24).f2) ((rd_T25 x22 x24).f3) ((rd_T25 x22 x24).f4)).bind fun t271 => (if t271 = true then (split_Best.l0 k x0 x1 x2 x22 x23 (wrap64 (x24 + 1))) else (some (false, 0, 0, 0, 0, 0, 8)))) else (none)) else (none)) else (if x2 < 1 then (some (false, 0, 0, 0, 0, 0, 1)) else (split_Best.l1 k x0 x2 x1 (x1.length : Int) 0 false 0 0 0 0 0))
def split_Best.l1 : Nat → List Int → Int → List (S25) → Int → Int → Bool → Int → Int → Int → Int → Int → Option (Bool × Int × Int × Int × Int × Int × Int)
 | 0, _, _, _, _, _, _, _, _, _, _, _ => none
 | k + 1, x0, x2, x36, x37, x38, x273000, x273001, x273002, x273003, x273004, x273005 => if x38 < x37 then (if 0 ≤ x38 then (if x38 < (x36.length : Int) then (split_Best.l2 k x0 x2 x38 x36 x37 x38 (wrap64 (((rd_T25 x36 x38).f1) - 1)) 0 x273000 x273001 x273002 x273003 x273004 x273005 ((rd_T25 x36 x38).f0) ((rd_T25 x36 x38).f1) ((rd_T25 x36 x38).f2) ((rd_T25 x36 x38).f3) ((rd_T25 x36 x38).f4)) else (none)) else (none)) else (some (x273000, x273001, x273002, x273003, x273004, x273005, 0))
def split_Best.l2 : Nat → List Int → Int → Int → List (S25) → Int → Int → Int → Int → Bool → Int → Int → Int → Int → Int → Int → Int → Int → List Int → List (S54) → Option (Bool × Int × Int × Int × Int × Int × Int)
 | 0, _, _, _, _, _, _, _, _, _, _, _, _, _, _, _, _, _, _, _ => none
 | k + 1, x0, x2, x11, x36, x37, x38, x45, x46, x273000, x273001, x273002, x273003, x273004, x273005, x275000, x275001, x275002, x275003, x275004 => if x46 < x45 then ((split_Cut.f k x275000 x275001 x275002 x275003 x275004 x46 x2).bind fun bt275 => (if bt275.2.2.2 = true then (if x273000 = true then ((frac_Cmp.f k bt275.1 bt275.2.1 bt275.2.2.1 x273003 x273004 x273005).bind fun t280 => (if t280 > 0 then (if 0 ≤ x11 then (if x11 < (x0.length : Int) then (split_Best.l2 k x0 x2 x11 x36 x37 x38 x45 (wrap64 (x46 + 1)) true (rd x0 x11) x46 bt275.1 bt275.2.1 bt275.2.2.1 x275000 x275001 x275002 x275003 x275004) else (none)) else (none)) else (split_Best.l2 k x0 x2 x11 x36 x37 x38 x45 (wrap64 (x46 + 1)) x273000 x273001 x273002 x273003 x273004 x273005 x275000 x275001 x275002 x275003 x275004))) else (if 0 ≤ x11 then (if x11 < (x0.length : Int) then (split_Best.l2 k x0 x2 x11 x36 x37 x38 x45 (wrap64 (x46 + 1)) true (rd x0 x11) x46 bt275.1 bt275.2.1 bt275.2.2.1 x275000 x275001 x275002 x275003 x275004) else (none)) else (none))) else (split_Best.l2 k x0 x2 x11 x36 x37 x38 x45 (wrap64 (x46 + 1)) x273000 x273001 x273002 x273003 x273004 x273005 x275000 x275001 x275002 x275003 x275004))) else (split_Best.l1 k x0 x2 x36 x37 (wrap64 (x38 + 1)) x273000 x273001 x273002 x273003 x273004 x273005)
end
def split_Best.f (k : Nat) (l0 : List Int) (l1 : List (S25)) (a2 : Int) : Option (Bool × Int × Int × Int × Int × Int × Int) := if (l0.length : Int) = (l1.length : Int) then (split_Best.l0 k l0 l1 a2 l1 (l1.length : Int) 0) else (some (false, 0, 0, 0, 0, 0, 8))
theorem split_Best.mono_l : ∀ k, (∀ y0 y1 y2 y3 y4 y5, LeO (split_Best.l0 k y0 y1 y2 y3 y4 y5) (split_Best.l0 (k + 1) y0 y1 y2 y3 y4 y5)) ∧ (∀ y0 y1 y2 y3 y4 y5 y6 y7 y8 y9 y10, LeO (split_Best.l1 k y0 y1 y2 y3 y4 y5 y6 y7 y8 y9 y10) (split_Best.l1 (k + 1) y0 y1 y2 y3 y4 y5 y6 y7 y8 y9 y10)) ∧ (∀ y0 y1 y2 y3 y4 y5 y6 y7 y8 y9 y10 y11 y12 y13 y14 y15 y16 y17 y18, LeO (split_Best.l2 k y0 y1 y2 y3 y4 y5 y6 y7 y8 y9 y10 y11 y12 y13 y14 y15 y16 y17 y18) (split_Best.l2 (k + 1) y0 y1 y2 y3 y4 y5 y6 y7 y8 y9 y10 y11 y12 y13 y14 y15 y16 y17 y18))
 | 0 => ⟨fun _ _ _ _ _ _ r h => by simp [split_Best.l0] at h, fun _ _ _ _ _ _ _ _ _ _ _ r h => by simp [split_Best.l1] at h, fun _ _ _ _ _ _ _ _ _ _ _ _ _ _ _ _ _ _ _ r h => by simp [split_Best.l2] at h⟩
 | k + 1 => by
  obtain ⟨ih0, ih1, ih2⟩ := split_Best.mono_l k
  refine ⟨?_, ?_, ?_⟩
  ·intro y0 y1 y2 y3 y4 y5
   unfold split_Best.l0
   repeat' first
   | (with_reducible exact ih0 _ _ _ _ _ _)
   | (with_reducible exact ih1 _ _ _ _ _ _ _ _ _ _ _)
   | (with_reducible exact ih2 _ _ _ _ _ _ _ _ _ _ _ _ _ _ _ _ _ _ _)
   | (with_reducible exact frac_Cmp.mono _ _ _ _ _ _ _)
   | (with_reducible exact split_Cut.mono _ _ _ _ _ _ _ _)
   | (with_reducible exact LeO.refl _)
   | (with_reducible exact LeO.none _)
   | (with_reducible refine LeO.ite ?_ ?_)
   | (with_reducible refine LeO.bind ?_ (fun _ => ?_))
   | exact ih0 _ _ _ _ _ _
   | exact ih1 _ _ _ _ _ _ _ _ _ _ _
   | exact ih2 _ _ _ _ _ _ _ _ _ _ _ _ _ _ _ _ _ _ _
   | exact frac_Cmp.mono _ _ _ _ _ _ _
   | exact split_Cut.mono _ _ _ _ _ _ _ _
   | exact LeO.none _
   | refine LeO.ite ?_ ?_
   | refine LeO.bind ?_ (fun _ => ?_)
  ·intro y0 y1 y2 y3 y4 y5 y6 y7 y8 y9 y10
   unfold split_Best.l1
   repeat' first
   | (with_reducible exact ih0 _ _ _ _ _ _)
   | (with_reducible exact ih1 _ _ _ _ _ _ _ _ _ _ _)
   | (with_reducible exact ih2 _ _ _ _ _ _ _ _ _ _ _ _ _ _ _ _ _ _ _)
   | (with_reducible exact frac_Cmp.mono _ _ _ _ _ _ _)
   | (with_reducible exact split_Cut.mono _ _ _ _ _ _ _ _)
   | (with_reducible exact LeO.refl _)
   | (with_reducible exact LeO.none _)
   | (with_reducible refine LeO.ite ?_ ?_)
   | (with_reducible refine LeO.bind ?_ (fun _ => ?_))
   | exact ih0 _ _ _ _ _ _
   | exact ih1 _ _ _ _ _ _ _ _ _ _ _
   | exact ih2 _ _ _ _ _ _ _ _ _ _ _ _ _ _ _ _ _ _ _
   | exact frac_Cmp.mono _ _ _ _ _ _ _
   | exact split_Cut.mono _ _ _ _ _ _ _ _
   | exact LeO.none _
   | refine LeO.ite ?_ ?_
   | refine LeO.bind ?_ (fun _ => ?_)
  ·intro y0 y1 y2 y3 y4 y5 y6 y7 y8 y9 y10 y11 y12 y13 y14 y15 y16 y17 y18
   unfold split_Best.l2
   repeat' first
   | (with_reducible exact ih0 _ _ _ _ _ _)
   | (with_reducible exact ih1 _ _ _ _ _ _ _ _ _ _ _)
   | (with_reducible exact ih2 _ _ _ _ _ _ _ _ _ _ _ _ _ _ _ _ _ _ _)
   | (with_reducible exact frac_Cmp.mono _ _ _ _ _ _ _)
   | (with_reducible exact split_Cut.mono _ _ _ _ _ _ _ _)
   | (with_reducible exact LeO.refl _)
   | (with_reducible exact LeO.none _)
   | (with_reducible refine LeO.ite ?_ ?_)
   | (with_reducible refine LeO.bind ?_ (fun _ => ?_))
   | exact ih0 _ _ _ _ _ _
   | exact ih1 _ _ _ _ _ _ _ _ _ _ _
   | exact ih2 _ _ _ _ _ _ _ _ _ _ _ _ _ _ _ _ _ _ _
   | exact frac_Cmp.mono _ _ _ _ _ _ _
   | exact split_Cut.mono _ _ _ _ _ _ _ _
   | exact LeO.none _
   | refine LeO.ite ?_ ?_
   | refine LeO.bind ?_ (fun _ => ?_)
theorem split_Best.mono : ∀ a0 a1 a2 k, LeO (split_Best.f k a0 a1 a2) (split_Best.f (k + 1) a0 a1 a2) := by
 intro a0 a1 a2 k
 obtain ⟨ih0, ih1, ih2⟩ := split_Best.mono_l k
 unfold split_Best.f
 repeat' first
   | (with_reducible exact ih0 _ _ _ _ _ _)
   | (with_reducible exact ih1 _ _ _ _ _ _ _ _ _ _ _)
   | (with_reducible exact ih2 _ _ _ _ _ _ _ _ _ _ _ _ _ _ _ _ _ _ _)
   | (with_reducible exact frac_Cmp.mono _ _ _ _ _ _ _)
   | (with_reducible exact split_Cut.mono _ _ _ _ _ _ _ _)
   | (with_reducible exact LeO.refl _)
   | (with_reducible exact LeO.none _)
   | (with_reducible refine LeO.ite ?_ ?_)
   | (with_reducible refine LeO.bind ?_ (fun _ => ?_))
   | exact ih0 _ _ _ _ _ _
   | exact ih1 _ _ _ _ _ _ _ _ _ _ _
   | exact ih2 _ _ _ _ _ _ _ _ _ _ _ _ _ _ _ _ _ _ _
   | exact frac_Cmp.mono _ _ _ _ _ _ _
   | exact split_Cut.mono _ _ _ _ _ _ _ _
   | exact LeO.none _
   | refine LeO.ite ?_ ?_
   | refine LeO.bind ?_ (fun _ => ?_)
def split_Best.T20 : Bool × List (List Nat × List Nat) := (true, [([], []), ([], []), ([0, 1], [0, 1]), ([2], [2]), ([], []), ([], []), ([3, 4, 5], [3, 4, 5]), ([6, 0, 1, 2, 3, 4, 5, 6], [6])])
def split_Best.B20 : List Nat := [0, 0, 3, 7, 0, 0, 63, 127]
theorem split_Best.tab20 : rtab .any (opsOf Try.f13 20) = split_Best.T20 := by kernel_rfl
theorem split_Best.bits20 : waitsOk split_Best.T20.2 split_Best.B20 = true := by kernel_rfl
set_option maxHeartbeats 8000000 in
set_option maxRecDepth 100000 in
theorem split_Best.calls (k : Nat) (A0 : Option Addr) (c0 : Nat) (l0 : List Int) (A1 : Option Addr) (c1 : Nat) (l1 : List (S25)) (a2 : Int) (r1 : Bool) (r2 : Int) (r3 : Int) (r4 : Int) (r5 : Int) (r6 : Int) (r7 : Int) (w : World) (hr0 : Kd.C (Kd.int .i64) w A0 l0.length l0) (hc0 : l0.length ≤ c0) (hr1 : Kd.C k25 w A1 l1.length l1) (hc1 : l1.length ≤ c1) (h : split_Best.f k l0 l1 a2 = some (r1, r2, r3, r4, r5, r6, r7)) :
  Calls Try.prog 13 #[.slice A0 l0.length c0, .slice A1 l1.length c1, .int .i64 a2] w fun e w' => e = .returned (.tuple #[.agg #[.bool r1, .int .i64 r2, .int .i64 r3, .int .u64 r4, .int .u64 r5, .int .u64 r6], .int .i64 r7]) ∧ Below w.heap.size w w' := by
 have hu40 := Try.underlying40
 have hu25 := Try.underlying25
 have hu32 := Try.underlying32
 have HR0 := aaM hr0
 have HC0 := aaM hc0
 clear hr0 hc0
 have HR1 := aaM hr1
 have HC1 := aaM hc1
 clear hr1 hc1
 have HB := aaM (Below.refl w.heap.size w)
 have H : (if (l0.length : Int) = (l1.length : Int) then (split_Best.l0 k l0 l1 a2 l1 (l1.length : Int) 0) else (some (false, 0, 0, 0, 0, 0, 8))) = some (r1, r2, r3, r4, r5, r6, r7) := h
 clear h
 by_cases c4 : (l0.length : Int) = (l1.length : Int)
 ·rw [if_pos c4] at H
  have c4b0 : ((l0.length : Int) == (l1.length : Int)) = true := beq_iff_eq.mpr c4
  have c4b1 : ((l0.length : Int) != (l1.length : Int)) = false := bne_eq_false_iff_eq.mpr c4
  have c4b2 : (l0.length == l1.length) = true := by first | simpa using c4 | (simp at c4 ⊢; omega)
  clear c4
  have H' := aaM H
  clear H
  go_enter Try.func13, Try.ntmps13
  go_wp2_with (first | ((with_reducible refine gate_dst (N := 6) rfl ?_); refine box_event ?hg (N := 6) ?hd (cs := #[.bool false, .int .i64 0, .int .i64 0, .int .u64 0, .int .u64 0, .int .u64 0]) (t := 40) ?hr ?_; (case hd => rfl); (case hg => rfl); (case hr => first | (go_simp; done) | (go_simp; rfl)); intro gb268 hg w5 hbox hb; have hP_ := lQ (by repeat (first | (with_reducible first | exact HB.out | apply lA | apply lN | apply lD) | exact HB.out)) hb; replace HB := aaM hP_.1; have BK268 := aaM (hbox); have GW268 := aaM (gQ hg hP_.2); have GE268 := aaM (gQ hg hP_.2); clear hP_ hb hbox hg))
  go_loopg [24] k (fun kq v24 w' => ∃ (x24_1 : Int) (x269000_1 : Bool) (x269001_1 : Int) (x269002_1 : Int) (x269003_1 : Int) (x269004_1 : Int) (x269005_1 : Int), v24 = .int .i64 x24_1 ∧ Aside0 (split_Best.l0 kq l0 l1 a2 l1 (l1.length : Int) x24_1 = some (r1, r2, r3, r4, r5, r6, r7)) ∧ Aside0 (kq ≤ k) ∧ Aside0 (w'.heap[gb268]? = some (.cells #[.bool x269000_1, .int .i64 x269001_1, .int .i64 x269002_1, .int .u64 x269003_1, .int .u64 x269004_1, .int .u64 x269005_1] 40 (0, 0))) ∧ Aside0 (Below w.heap.size w w'))
  case atStart => exact ⟨(0), (false), (0), (0), (0), (0), (0), (by first | rfl | (simp; done) | (simp [*]; done)), H', ⟨Nat.le_refl _⟩, ⟨by (with_reducible repeat (first | refine bN ?_ _ | refine bD ?_ | refine bA ?_ _)); exact BK268.out⟩, ⟨by repeat (first | (with_reducible first | exact HB.out | apply lA | apply lN | apply lD | refine lS ?_ GE268.out) | exact HB.out)⟩⟩
  case round =>
   clear H'
   try clear c1
   try clear p2
   try clear c4
   try clear c4b0
   try clear c4b1
   try clear c4b2
   obtain ⟨x24_1, x269000_1, x269001_1, x269002_1, x269003_1, x269004_1, x269005_1, rfl, HA, HK1, BK268, HB⟩ := hrel
   cases gk with
   | zero => exact absurd HA.out (by simp [split_Best.l0])
   | succ k1 =>
    have H := HA.out
    clear HA
    simp only [split_Best.l0] at H
    by_cases c6 : x24_1 < (l1.length : Int)
    ·rw [if_pos c6] at H
     have c6b0 : decide (x24_1 < (l1.length : Int)) = true := decide_eq_true c6
     clear c6
     by_cases c7 : 0 ≤ x24_1
     ·rw [if_pos c7] at H
      have c7b0 : decide (0 ≤ x24_1) = true := decide_eq_true c7
      clear c7
      by_cases c8 : x24_1 < (l1.length : Int)
      ·rw [if_pos c8] at H
       have c8b0 : decide (x24_1 < (l1.length : Int)) = true := decide_eq_true c8
       clear c8
       replace H := ooB.mp H
       obtain ⟨t271, A90, H⟩ := H
       replace H : (if t271 = true then (split_Best.l0 k1 l0 l1 a2 l1 (l1.length : Int) (wrap64 (x24_1 + 1))) else (some (false, 0, 0, 0, 0, 0, 8))) = some (r1, r2, r3, r4, r5, r6, r7) := H
       have A9 := aaM A90
       clear A90
       by_cases c10 : t271 = true
       ·subst c10
        have H1 : (split_Best.l0 k1 l0 l1 a2 l1 (l1.length : Int) (wrap64 (x24_1 + 1))) = some (r1, r2, r3, r4, r5, r6, r7) := by rw [if_pos rfl] at H; exact H
        clear H
        have H := H1
        clear H1
        have H' := aaM H
        clear H
        have p269 : 0 ≤ (x24_1 : Int) := of_decide_eq_true (by first | (with_reducible assumption) | assumption)
        have q269 : x24_1 < (l1.length : Int) := of_decide_eq_true (by first | (with_reducible assumption) | assumption)
        obtain ⟨ad269, A269_3, c269_3, A269_4, c269_4, e269, hx269_0, hx269_1, hx269_2, hx269_3, hx269_4, hl269_3, hi269_3, hl269_4, hi269_4⟩ := at_T25 HR1.out x24_1 p269 q269
        cases e269
        replace hx269_0 := (HB.out.cell (World.block_lt_of_cell? w _ hx269_0)).trans hx269_0
        replace hx269_1 := (HB.out.cell (World.block_lt_of_cell? w _ hx269_1)).trans hx269_1
        replace hx269_2 := (HB.out.cell (World.block_lt_of_cell? w _ hx269_2)).trans hx269_2
        replace hx269_3 := (HB.out.cell (World.block_lt_of_cell? w _ hx269_3)).trans hx269_3
        replace hx269_4 := (HB.out.cell (World.block_lt_of_cell? w _ hx269_4)).trans hx269_4
        have HR269_3 := aaM hi269_3
        have HC269_3 := aaM hl269_3
        clear hi269_3 hl269_3
        have HR269_4 := aaM hi269_4
        have HC269_4 := aaM hl269_4
        clear hi269_4 hl269_4
        replace p269 := eq_true p269
        replace q269 := eq_true q269
        go_wp2_with (first | ((with_reducible refine gate_dst (N := 9) rfl ?_); refine box_event ?hg (N := 9) ?hd (cs := #[.int .i64 0, .int .i64 0, .int .i64 0, .slice none 0 0, .slice none 0 0]) (t := 25) ?hr ?_; (case hd => rfl); (case hg => rfl); (case hr => first | (go_simp; done) | (go_simp; rfl)); intro gb270 hg w11 hbox hb; have hP_ := lQ (by repeat (first | (with_reducible first | exact HB.out | apply lA | apply lN | apply lD | refine lS ?_ GE268.out) | exact HB.out)) hb; replace HB := aaM hP_.1; have BK270 := aaM (hbox); have GW270 := aaM (gQ hg hP_.2); have GE270 := aaM (gQ hg hP_.2); have NB268_270 := aaM (nL hg BK268.out); have NB270_268 := aaM (nL hg BK268.out).symm; replace BK268 := aaM (bX hb BK268.out); clear hP_ hb hbox hg; have hnb12 := NB270_268.out; have hnc12 := NB268_270.out; obtain ⟨hcz13_0, hcz13_1, hcz13_2, hcz13_3, hcz13_4, hfz13_0, hfz13_1, hfz13_2, hfz13_3, hfz13_4⟩ := bE5 BK270.out) | ((with_reducible refine gate_callee (f := 18) rfl ?_); refine goesL_ (some 29) rfl rfl Try.func18 (by kernel_rfl) rfl #[.agg #[.int .i64 ((rd_T25 l1 x24_1).f0), .int .i64 ((rd_T25 l1 x24_1).f1), .int .i64 ((rd_T25 l1 x24_1).f2), .slice A269_3 ((rd_T25 l1 x24_1).f3).length c269_3, .slice A269_4 ((rd_T25 l1 x24_1).f4).length c269_4]] rfl (by (try simp only [mmT, mmC, mmN]); first | done | rfl | (simp only [ddD, ddT]; rfl)) ?_; (with_reducible refine (hist_Right.calls ((rd_T25 l1 x24_1).f0) ((rd_T25 l1 x24_1).f1) ((rd_T25 l1 x24_1).f2) _ _ ((rd_T25 l1 x24_1).f3) _ _ ((rd_T25 l1 x24_1).f4) true _ ?side1 ?side2 ?side3 ?side4 A9.out).mono ?_); (case side1 => exact ccB HR269_3.out (by repeat (first | (with_reducible first | exact HB.out | apply lA | apply lN | apply lD | refine lS ?_ GE268.out | refine lS ?_ GE270.out) | exact HB.out))); (case side2 => exact HC269_3.out); (case side3 => exact ccB HR269_4.out (by repeat (first | (with_reducible first | exact HB.out | apply lA | apply lN | apply lD | refine lS ?_ GE268.out | refine lS ?_ GE270.out) | exact HB.out))); (case side4 => exact HC269_4.out); rintro e w14 ⟨rfl, hb⟩; refine ⟨_, rfl, ?_⟩; replace BK268 := aaM (bB (g := gb268) (o := .cells #[.bool x269000_1, .int .i64 x269001_1, .int .i64 x269002_1, .int .u64 x269003_1, .int .u64 x269004_1, .int .u64 x269005_1] 40 (0, 0)) (by (with_reducible repeat (first | refine bN ?_ _ | refine bD ?_ | refine bA ?_ _)); refine blk_far ?_ NB268_270.out _; (with_reducible repeat (first | refine bN ?_ _ | refine bD ?_ | refine bA ?_ _)); refine blk_far ?_ NB268_270.out _; (with_reducible repeat (first | refine bN ?_ _ | refine bD ?_ | refine bA ?_ _)); refine blk_far ?_ NB268_270.out _; (with_reducible repeat (first | refine bN ?_ _ | refine bD ?_ | refine bA ?_ _)); refine blk_far ?_ NB268_270.out _; (with_reducible repeat (first | refine bN ?_ _ | refine bD ?_ | refine bA ?_ _)); refine blk_far ?_ NB268_270.out _; (with_reducible repeat (first | refine bN ?_ _ | refine bD ?_ | refine bA ?_ _)); exact BK268.out) hb); replace BK270 := aaM (bB (g := gb270) (o := .cells #[.int .i64 ((rd_T25 l1 x24_1).f0), .int .i64 ((rd_T25 l1 x24_1).f1), .int .i64 ((rd_T25 l1 x24_1).f2), .slice A269_3 ((rd_T25 l1 x24_1).f3).length c269_3, .slice A269_4 ((rd_T25 l1 x24_1).f4).length c269_4] 25 (0, 0)) (by (with_reducible repeat (first | refine bN ?_ _ | refine bD ?_ | refine bA ?_ _)); refine blk_put (cs := #[.int .i64 ((rd_T25 l1 x24_1).f0), .int .i64 ((rd_T25 l1 x24_1).f1), .int .i64 ((rd_T25 l1 x24_1).f2), .slice A269_3 ((rd_T25 l1 x24_1).f3).length c269_3, .slice none 0 0]) ?_ 4 _ rfl; (with_reducible repeat (first | refine bN ?_ _ | refine bD ?_ | refine bA ?_ _)); refine blk_put (cs := #[.int .i64 ((rd_T25 l1 x24_1).f0), .int .i64 ((rd_T25 l1 x24_1).f1), .int .i64 ((rd_T25 l1 x24_1).f2), .slice none 0 0, .slice none 0 0]) ?_ 3 _ rfl; (with_reducible repeat (first | refine bN ?_ _ | refine bD ?_ | refine bA ?_ _)); refine blk_put (cs := #[.int .i64 ((rd_T25 l1 x24_1).f0), .int .i64 ((rd_T25 l1 x24_1).f1), .int .i64 0, .slice none 0 0, .slice none 0 0]) ?_ 2 _ rfl; (with_reducible repeat (first | refine bN ?_ _ | refine bD ?_ | refine bA ?_ _)); refine blk_put (cs := #[.int .i64 ((rd_T25 l1 x24_1).f0), .int .i64 0, .int .i64 0, .slice none 0 0, .slice none 0 0]) ?_ 1 _ rfl; (with_reducible repeat (first | refine bN ?_ _ | refine bD ?_ | refine bA ?_ _)); refine blk_put (cs := #[.int .i64 0, .int .i64 0, .int .i64 0, .slice none 0 0, .slice none 0 0]) ?_ 0 _ rfl; (with_reducible repeat (first | refine bN ?_ _ | refine bD ?_ | refine bA ?_ _)); exact BK270.out) hb); replace HB := aaM (lP (by repeat (first | (with_reducible first | exact HB.out | apply lA | apply lN | apply lD | refine lS ?_ GE268.out | refine lS ?_ GE270.out) | exact HB.out)) hb); (try clear hb); (try clear hb2); (try clear hk); (try clear hi)))
        go_roundg k1
        case measure => have := HK1.out; omega
        case rel => exact ⟨(wrap64 (x24_1 + 1)), (x269000_1), (x269001_1), (x269002_1), (x269003_1), (x269004_1), (x269005_1), (by first | rfl | (simp; done) | (simp [*]; done)), H', ⟨by have := HK1.out; omega⟩, ⟨by (with_reducible repeat (first | refine bN ?_ _ | refine bD ?_ | refine bA ?_ _)); exact BK268.out⟩, ⟨by repeat (first | (with_reducible first | exact HB.out | apply lA | apply lN | apply lD | refine lS ?_ GE268.out | refine lS ?_ GE270.out) | exact HB.out)⟩⟩
       ·replace c10 := Bool.eq_false_iff.mpr c10
        subst c10
        have H1 : (some (false, 0, 0, 0, 0, 0, 8)) = some (r1, r2, r3, r4, r5, r6, r7) := by rw [if_neg (show ¬ (false = true) by decide)] at H; exact H
        clear H
        have H := H1
        clear H1
        simp only [Option.some.injEq, Prod.mk.injEq] at H
        obtain ⟨rfl, rfl, rfl, rfl, rfl, rfl, rfl⟩ := H
        have p269 : 0 ≤ (x24_1 : Int) := of_decide_eq_true (by first | (with_reducible assumption) | assumption)
        have q269 : x24_1 < (l1.length : Int) := of_decide_eq_true (by first | (with_reducible assumption) | assumption)
        obtain ⟨ad269, A269_3, c269_3, A269_4, c269_4, e269, hx269_0, hx269_1, hx269_2, hx269_3, hx269_4, hl269_3, hi269_3, hl269_4, hi269_4⟩ := at_T25 HR1.out x24_1 p269 q269
        cases e269
        replace hx269_0 := (HB.out.cell (World.block_lt_of_cell? w _ hx269_0)).trans hx269_0
        replace hx269_1 := (HB.out.cell (World.block_lt_of_cell? w _ hx269_1)).trans hx269_1
        replace hx269_2 := (HB.out.cell (World.block_lt_of_cell? w _ hx269_2)).trans hx269_2
        replace hx269_3 := (HB.out.cell (World.block_lt_of_cell? w _ hx269_3)).trans hx269_3
        replace hx269_4 := (HB.out.cell (World.block_lt_of_cell? w _ hx269_4)).trans hx269_4
        have HR269_3 := aaM hi269_3
        have HC269_3 := aaM hl269_3
        clear hi269_3 hl269_3
        have HR269_4 := aaM hi269_4
        have HC269_4 := aaM hl269_4
        clear hi269_4 hl269_4
        replace p269 := eq_true p269
        replace q269 := eq_true q269
        go_wp2_with (first | ((with_reducible refine gate_dst (N := 9) rfl ?_); refine box_event ?hg (N := 9) ?hd (cs := #[.int .i64 0, .int .i64 0, .int .i64 0, .slice none 0 0, .slice none 0 0]) (t := 25) ?hr ?_; (case hd => rfl); (case hg => rfl); (case hr => first | (go_simp; done) | (go_simp; rfl)); intro gb270 hg w15 hbox hb; have hP_ := lQ (by repeat (first | (with_reducible first | exact HB.out | apply lA | apply lN | apply lD | refine lS ?_ GE268.out) | exact HB.out)) hb; replace HB := aaM hP_.1; have BK270 := aaM (hbox); have GW270 := aaM (gQ hg hP_.2); have GE270 := aaM (gQ hg hP_.2); have NB268_270 := aaM (nL hg BK268.out); have NB270_268 := aaM (nL hg BK268.out).symm; replace BK268 := aaM (bX hb BK268.out); clear hP_ hb hbox hg; have hnb16 := NB270_268.out; have hnc16 := NB268_270.out; obtain ⟨hcz17_0, hcz17_1, hcz17_2, hcz17_3, hcz17_4, hfz17_0, hfz17_1, hfz17_2, hfz17_3, hfz17_4⟩ := bE5 BK270.out) | ((with_reducible refine gate_callee (f := 18) rfl ?_); refine goesL_ (some 29) rfl rfl Try.func18 (by kernel_rfl) rfl #[.agg #[.int .i64 ((rd_T25 l1 x24_1).f0), .int .i64 ((rd_T25 l1 x24_1).f1), .int .i64 ((rd_T25 l1 x24_1).f2), .slice A269_3 ((rd_T25 l1 x24_1).f3).length c269_3, .slice A269_4 ((rd_T25 l1 x24_1).f4).length c269_4]] rfl (by (try simp only [mmT, mmC, mmN]); first | done | rfl | (simp only [ddD, ddT]; rfl)) ?_; (with_reducible refine (hist_Right.calls ((rd_T25 l1 x24_1).f0) ((rd_T25 l1 x24_1).f1) ((rd_T25 l1 x24_1).f2) _ _ ((rd_T25 l1 x24_1).f3) _ _ ((rd_T25 l1 x24_1).f4) false _ ?side1 ?side2 ?side3 ?side4 A9.out).mono ?_); (case side1 => exact ccB HR269_3.out (by repeat (first | (with_reducible first | exact HB.out | apply lA | apply lN | apply lD | refine lS ?_ GE268.out | refine lS ?_ GE270.out) | exact HB.out))); (case side2 => exact HC269_3.out); (case side3 => exact ccB HR269_4.out (by repeat (first | (with_reducible first | exact HB.out | apply lA | apply lN | apply lD | refine lS ?_ GE268.out | refine lS ?_ GE270.out) | exact HB.out))); (case side4 => exact HC269_4.out); rintro e w18 ⟨rfl, hb⟩; refine ⟨_, rfl, ?_⟩; replace BK268 := aaM (bB (g := gb268) (o := .cells #[.bool x269000_1, .int .i64 x269001_1, .int .i64 x269002_1, .int .u64 x269003_1, .int .u64 x269004_1, .int .u64 x269005_1] 40 (0, 0)) (by (with_reducible repeat (first | refine bN ?_ _ | refine bD ?_ | refine bA ?_ _)); refine blk_far ?_ NB268_270.out _; (with_reducible repeat (first | refine bN ?_ _ | refine bD ?_ | refine bA ?_ _)); refine blk_far ?_ NB268_270.out _; (with_reducible repeat (first | refine bN ?_ _ | refine bD ?_ | refine bA ?_ _)); refine blk_far ?_ NB268_270.out _; (with_reducible repeat (first | refine bN ?_ _ | refine bD ?_ | refine bA ?_ _)); refine blk_far ?_ NB268_270.out _; (with_reducible repeat (first | refine bN ?_ _ | refine bD ?_ | refine bA ?_ _)); refine blk_far ?_ NB268_270.out _; (with_reducible repeat (first | refine bN ?_ _ | refine bD ?_ | refine bA ?_ _)); exact BK268.out) hb); replace BK270 := aaM (bB (g := gb270) (o := .cells #[.int .i64 ((rd_T25 l1 x24_1).f0), .int .i64 ((rd_T25 l1 x24_1).f1), .int .i64 ((rd_T25 l1 x24_1).f2), .slice A269_3 ((rd_T25 l1 x24_1).f3).length c269_3, .slice A269_4 ((rd_T25 l1 x24_1).f4).length c269_4] 25 (0, 0)) (by (with_reducible repeat (first | refine bN ?_ _ | refine bD ?_ | refine bA ?_ _)); refine blk_put (cs := #[.int .i64 ((rd_T25 l1 x24_1).f0), .int .i64 ((rd_T25 l1 x24_1).f1), .int .i64 ((rd_T25 l1 x24_1).f2), .slice A269_3 ((rd_T25 l1 x24_1).f3).length c269_3, .slice none 0 0]) ?_ 4 _ rfl; (with_reducible repeat (first | refine bN ?_ _ | refine bD ?_ | refine bA ?_ _)); refine blk_put (cs := #[.int .i64 ((rd_T25 l1 x24_1).f0), .int .i64 ((rd_T25 l1 x24_1).f1), .int .i64 ((rd_T25 l1 x24_1).f2), .slice none 0 0, .slice none 0 0]) ?_ 3 _ rfl; (with_reducible repeat (first | refine bN ?_ _ | refine bD ?_ | refine bA ?_ _)); refine blk_put (cs := #[.int .i64 ((rd_T25 l1 x24_1).f0), .int .i64 ((rd_T25 l1 x24_1).f1), .int .i64 0, .slice none 0 0, .slice none 0 0]) ?_ 2 _ rfl; (with_reducible repeat (first | refine bN ?_ _ | refine bD ?_ | refine bA ?_ _)); refine blk_put (cs := #[.int .i64 ((rd_T25 l1 x24_1).f0), .int .i64 0, .int .i64 0, .slice none 0 0, .slice none 0 0]) ?_ 1 _ rfl; (with_reducible repeat (first | refine bN ?_ _ | refine bD ?_ | refine bA ?_ _)); refine blk_put (cs := #[.int .i64 0, .int .i64 0, .int .i64 0, .slice none 0 0, .slice none 0 0]) ?_ 0 _ rfl; (with_reducible repeat (first | refine bN ?_ _ | refine bD ?_ | refine bA ?_ _)); exact BK270.out) hb); replace HB := aaM (lP (by repeat (first | (with_reducible first | exact HB.out | apply lA | apply lN | apply lD | refine lS ?_ GE268.out | refine lS ?_ GE270.out) | exact HB.out)) hb); (try clear hb); (try clear hb2); (try clear hk); (try clear hi); obtain ⟨hcz19_0, hcz19_1, hcz19_2, hcz19_3, hcz19_4, hcz19_5, hfz19_0, hfz19_1, hfz19_2, hfz19_3, hfz19_4, hfz19_5⟩ := bE6 BK268.out))
        refine bodyPost_ret (results_ct rfl _ _ gb268 40 #[.bool false, .int .i64 0, .int .i64 0, .int .u64 0, .int .u64 0, .int .u64 0] (0, 0) _ rfl (by (with_reducible repeat (first | refine bN ?_ _ | refine bD ?_ | refine bA ?_ _)); refine blk_put (cs := #[.bool false, .int .i64 0, .int .i64 0, .int .u64 0, .int .u64 0, .int .u64 x269005_1]) ?_ 5 _ rfl; (with_reducible repeat (first | refine bN ?_ _ | refine bD ?_ | refine bA ?_ _)); refine blk_put (cs := #[.bool false, .int .i64 0, .int .i64 0, .int .u64 0, .int .u64 x269004_1, .int .u64 x269005_1]) ?_ 4 _ rfl; (with_reducible repeat (first | refine bN ?_ _ | refine bD ?_ | refine bA ?_ _)); refine blk_put (cs := #[.bool false, .int .i64 0, .int .i64 0, .int .u64 x269003_1, .int .u64 x269004_1, .int .u64 x269005_1]) ?_ 3 _ rfl; (with_reducible repeat (first | refine bN ?_ _ | refine bD ?_ | refine bA ?_ _)); refine blk_put (cs := #[.bool false, .int .i64 0, .int .i64 x269002_1, .int .u64 x269003_1, .int .u64 x269004_1, .int .u64 x269005_1]) ?_ 2 _ rfl; (with_reducible repeat (first | refine bN ?_ _ | refine bD ?_ | refine bA ?_ _)); refine blk_put (cs := #[.bool false, .int .i64 x269001_1, .int .i64 x269002_1, .int .u64 x269003_1, .int .u64 x269004_1, .int .u64 x269005_1]) ?_ 1 _ rfl; (with_reducible repeat (first | refine bN ?_ _ | refine bD ?_ | refine bA ?_ _)); refine blk_put (cs := #[.bool x269000_1, .int .i64 x269001_1, .int .i64 x269002_1, .int .u64 x269003_1, .int .u64 x269004_1, .int .u64 x269005_1]) ?_ 0 _ rfl; (with_reducible repeat (first | refine bN ?_ _ | refine bD ?_ | refine bA ?_ _)); exact BK268.out) Try.underlying40 rfl (by kernel_rfl)) rfl ?_
        exact ⟨by first | rfl | (simp [errW_none, errW_some] <;> rfl) | (simp [*, errW_none, errW_some] <;> rfl), by repeat (first | (with_reducible first | exact HB.out | apply lA | apply lN | apply lD | refine lS ?_ GE268.out | refine lS ?_ GE270.out) | exact HB.out)⟩
      ·rw [if_neg c8] at H
       exact absurd H (by simp)
     ·rw [if_neg c7] at H
      exact absurd H (by simp)
    ·rw [if_neg c6] at H
     have c6b0 : decide (x24_1 < (l1.length : Int)) = false := decide_eq_false c6
     clear c6
     by_cases c20 : a2 < 1
     ·rw [if_pos c20] at H
      have c20b0 : decide (a2 < 1) = true := decide_eq_true c20
      clear c20
      simp only [Option.some.injEq, Prod.mk.injEq] at H
      obtain ⟨rfl, rfl, rfl, rfl, rfl, rfl, rfl⟩ := H
      obtain ⟨hcz21_0, hcz21_1, hcz21_2, hcz21_3, hcz21_4, hcz21_5, hfz21_0, hfz21_1, hfz21_2, hfz21_3, hfz21_4, hfz21_5⟩ := bE6 BK268.out
      go_wp2
      refine bodyPost_ret (results_ct rfl _ _ gb268 40 #[.bool false, .int .i64 0, .int .i64 0, .int .u64 0, .int .u64 0, .int .u64 0] (0, 0) _ rfl (by (with_reducible repeat (first | refine bN ?_ _ | refine bD ?_ | refine bA ?_ _)); refine blk_put (cs := #[.bool false, .int .i64 0, .int .i64 0, .int .u64 0, .int .u64 0, .int .u64 x269005_1]) ?_ 5 _ rfl; (with_reducible repeat (first | refine bN ?_ _ | refine bD ?_ | refine bA ?_ _)); refine blk_put (cs := #[.bool false, .int .i64 0, .int .i64 0, .int .u64 0, .int .u64 x269004_1, .int .u64 x269005_1]) ?_ 4 _ rfl; (with_reducible repeat (first | refine bN ?_ _ | refine bD ?_ | refine bA ?_ _)); refine blk_put (cs := #[.bool false, .int .i64 0, .int .i64 0, .int .u64 x269003_1, .int .u64 x269004_1, .int .u64 x269005_1]) ?_ 3 _ rfl; (with_reducible repeat (first | refine bN ?_ _ | refine bD ?_ | refine bA ?_ _)); refine blk_put (cs := #[.bool false, .int .i64 0, .int .i64 x269002_1, .int .u64 x269003_1, .int .u64 x269004_1, .int .u64 x269005_1]) ?_ 2 _ rfl; (with_reducible repeat (first | refine bN ?_ _ | refine bD ?_ | refine bA ?_ _)); refine blk_put (cs := #[.bool false, .int .i64 x269001_1, .int .i64 x269002_1, .int .u64 x269003_1, .int .u64 x269004_1, .int .u64 x269005_1]) ?_ 1 _ rfl; (with_reducible repeat (first | refine bN ?_ _ | refine bD ?_ | refine bA ?_ _)); refine blk_put (cs := #[.bool x269000_1, .int .i64 x269001_1, .int .i64 x269002_1, .int .u64 x269003_1, .int .u64 x269004_1, .int .u64 x269005_1]) ?_ 0 _ rfl; (with_reducible repeat (first | refine bN ?_ _ | refine bD ?_ | refine bA ?_ _)); exact BK268.out) Try.underlying40 rfl (by kernel_rfl)) rfl ?_
      exact ⟨by first | rfl | (simp [errW_none, errW_some] <;> rfl) | (simp [*, errW_none, errW_some] <;> rfl), by repeat (first | (with_reducible first | exact HB.out | apply lA | apply lN | apply lD | refine lS ?_ GE268.out) | exact HB.out)⟩
     ·rw [if_neg c20] at H
      have c20b0 : decide (a2 < 1) = false := decide_eq_false c20
      clear c20
      have H' := aaM H
      clear H
      go_wp2_with (first | ((with_reducible refine gate_dst (N := 10) rfl ?_); refine box_event ?hg (N := 10) ?hd (cs := #[.bool false, .int .i64 0, .int .i64 0, .int .u64 0, .int .u64 0, .int .u64 0]) (t := 40) ?hr ?_; (case hd => rfl); (case hg => rfl); (case hr => first | (go_simp; done) | (go_simp; rfl)); intro gb272 hg w22 hbox hb; have hP_ := lQ (by repeat (first | (with_reducible first | exact HB.out | apply lA | apply lN | apply lD | refine lS ?_ GE268.out) | exact HB.out)) hb; replace HB := aaM hP_.1; have BK272 := aaM (hbox); have GW272 := aaM (gQ hg hP_.2); have GE272 := aaM (gQ hg hP_.2); have NB268_272 := aaM (nL hg BK268.out); have NB272_268 := aaM (nL hg BK268.out).symm; replace BK268 := aaM (bX hb BK268.out); clear hP_ hb hbox hg))
      go_loopg [38] k1 (fun kq v38 w' => ∃ (x38_2 : Int) (x273000_2 : Bool) (x273001_2 : Int) (x273002_2 : Int) (x273003_2 : Int) (x273004_2 : Int) (x273005_2 : Int), v38 = .int .i64 x38_2 ∧ Aside0 (split_Best.l1 kq l0 a2 l1 (l1.length : Int) x38_2 x273000_2 x273001_2 x273002_2 x273003_2 x273004_2 x273005_2 = some (r1, r2, r3, r4, r5, r6, r7)) ∧ Aside0 (kq ≤ k1) ∧ Aside0 (w'.heap[gb268]? = some (.cells #[.bool x269000_1, .int .i64 x269001_1, .int .i64 x269002_1, .int .u64 x269003_1, .int .u64 x269004_1, .int .u64 x269005_1] 40 (0, 0))) ∧ Aside0 (w'.heap[gb272]? = some (.cells #[.bool x273000_2, .int .i64 x273001_2, .int .i64 x273002_2, .int .u64 x273003_2, .int .u64 x273004_2, .int .u64 x273005_2] 40 (0, 0))) ∧ Aside0 (Below w.heap.size w w'))
      case atStart => exact ⟨(0), (false), (0), (0), (0), (0), (0), (by first | rfl | (simp; done) | (simp [*]; done)), H', ⟨Nat.le_refl _⟩, ⟨by (with_reducible repeat (first | refine bN ?_ _ | refine bD ?_ | refine bA ?_ _)); exact BK268.out⟩, ⟨by (with_reducible repeat (first | refine bN ?_ _ | refine bD ?_ | refine bA ?_ _)); exact BK272.out⟩, ⟨by repeat (first | (with_reducible first | exact HB.out | apply lA | apply lN | apply lD | refine lS ?_ GE268.out | refine lS ?_ GE272.out) | exact HB.out)⟩⟩
      case round =>
       clear H'
       try clear c1
       try clear c2
       try clear p2
       try clear q2
       try clear hx2
       try clear c4
       try clear c4b0
       try clear c4b1
       try clear c4b2
       try clear c6
       try clear c6b0
       try clear p6
       try clear c7
       try clear c7b0
       try clear c8
       try clear c8b0
       try clear c10
       try clear c12
       try clear c13
       try clear c16
       try clear c18
       try clear c20
       try clear c20b0
       try clear hcz13_0
       try clear hcz13_1
       try clear hcz13_2
       try clear hcz13_3
       try clear hcz13_4
       try clear hcz17_0
       try clear hcz17_1
       try clear hcz17_2
       try clear hcz17_3
       try clear hcz17_4
       try clear hcz19_0
       try clear hcz19_1
       try clear hcz19_2
       try clear hcz19_3
       try clear hcz19_4
       try clear hcz19_5
       try clear hcz21_0
       try clear hcz21_1
       try clear hcz21_2
       try clear hcz21_3
       try clear hcz21_4
       try clear hcz21_5
       try clear hfz13_0
       try clear hfz13_1
       try clear hfz13_2
       try clear hfz13_3
       try clear hfz13_4
       try clear hfz17_0
       try clear hfz17_1
       try clear hfz17_2
       try clear hfz17_3
       try clear hfz17_4
       try clear hfz19_0
       try clear hfz19_1
       try clear hfz19_2
       try clear hfz19_3
       try clear hfz19_4
       try clear hfz19_5
       try clear hfz21_0
       try clear hfz21_1
       try clear hfz21_2
       try clear hfz21_3
       try clear hfz21_4
       try clear hfz21_5
       try clear hx269_0
       try clear hx269_1
       try clear hx269_2
       try clear hx269_3
       try clear hx269_4
       try clear p2
       try clear p269
       try clear q269
       obtain ⟨x38_2, x273000_2, x273001_2, x273002_2, x273003_2, x273004_2, x273005_2, rfl, HA, HK2, BK268, BK272, HB⟩ := hrel
       cases gk with
       | zero => exact absurd HA.out (by simp [split_Best.l1])
       | succ k2 =>
        have H := HA.out
        clear HA
        simp only [split_Best.l1] at H
        by_cases c23 : x38_2 < (l1.length : Int)
        ·rw [if_pos c23] at H
         have c23b0 : decide (x38_2 < (l1.length : Int)) = true := decide_eq_true c23
         clear c23
         by_cases c24 : 0 ≤ x38_2
         ·rw [if_pos c24] at H
          have c24b0 : decide (0 ≤ x38_2) = true := decide_eq_true c24
          clear c24
          by_cases c25 : x38_2 < (l1.length : Int)
          ·rw [if_pos c25] at H
           have c25b0 : decide (x38_2 < (l1.length : Int)) = true := decide_eq_true c25
           clear c25
           have H' := aaM H
           clear H
           have p273 : 0 ≤ (x38_2 : Int) := of_decide_eq_true (by first | (with_reducible assumption) | assumption)
           have q273 : x38_2 < (l1.length : Int) := of_decide_eq_true (by first | (with_reducible assumption) | assumption)
           obtain ⟨ad273, A273_3, c273_3, A273_4, c273_4, e273, hx273_0, hx273_1, hx273_2, hx273_3, hx273_4, hl273_3, hi273_3, hl273_4, hi273_4⟩ := at_T25 HR1.out x38_2 p273 q273
           cases e273
           replace hx273_0 := (HB.out.cell (World.block_lt_of_cell? w _ hx273_0)).trans hx273_0
           replace hx273_1 := (HB.out.cell (World.block_lt_of_cell? w _ hx273_1)).trans hx273_1
           replace hx273_2 := (HB.out.cell (World.block_lt_of_cell? w _ hx273_2)).trans hx273_2
           replace hx273_3 := (HB.out.cell (World.block_lt_of_cell? w _ hx273_3)).trans hx273_3
           replace hx273_4 := (HB.out.cell (World.block_lt_of_cell? w _ hx273_4)).trans hx273_4
           have HR273_3 := aaM hi273_3
           have HC273_3 := aaM hl273_3
           clear hi273_3 hl273_3
           have HR273_4 := aaM hi273_4
           have HC273_4 := aaM hl273_4
           clear hi273_4 hl273_4
           replace p273 := eq_true p273
           replace q273 := eq_true q273
           go_wp2_with (first | ((with_reducible refine gate_dst (N := 12) rfl ?_); refine box_event ?hg (N := 12) ?hd (cs := #[.int .i64 0, .int .i64 0, .int .i64 0, .slice none 0 0, .slice none 0 0]) (t := 25) ?hr ?_; (case hd => rfl); (case hg => rfl); (case hr => first | (go_simp; done) | (go_simp; rfl)); intro gb274 hg w26 hbox hb; have hP_ := lQ (by repeat (first | (with_reducible first | exact HB.out | apply lA | apply lN | apply lD | refine lS ?_ GE268.out | refine lS ?_ GE272.out) | exact HB.out)) hb; replace HB := aaM hP_.1; have BK274 := aaM (hbox); have GW274 := aaM (gQ hg hP_.2); have GE274 := aaM (gQ hg hP_.2); have NB268_274 := aaM (nL hg BK268.out); have NB274_268 := aaM (nL hg BK268.out).symm; replace BK268 := aaM (bX hb BK268.out); have NB272_274 := aaM (nL hg BK272.out); have NB274_272 := aaM (nL hg BK272.out).symm; replace BK272 := aaM (bX hb BK272.out); clear hP_ hb hbox hg; have hnb27 := NB274_268.out; have hnc27 := NB268_274.out; have hnb28 := NB274_272.out; have hnc28 := NB272_274.out; obtain ⟨hcz29_0, hcz29_1, hcz29_2, hcz29_3, hcz29_4, hfz29_0, hfz29_1, hfz29_2, hfz29_3, hfz29_4⟩ := bE5 BK274.out))
           go_loopg [46] k2 (fun kq v46 w' => ∃ (x46_3 : Int) (x273000_3 : Bool) (x273001_3 : Int) (x273002_3 : Int) (x273003_3 : Int) (x273004_3 : Int) (x273005_3 : Int), v46 = .int .i64 x46_3 ∧ Aside0 (split_Best.l2 kq l0 a2 x38_2 l1 (l1.length : Int) x38_2 (wrap64 (((rd_T25 l1 x38_2).f1) - 1)) x46_3 x273000_3 x273001_3 x273002_3 x273003_3 x273004_3 x273005_3 ((rd_T25 l1 x38_2).f0) ((rd_T25 l1 x38_2).f1) ((rd_T25 l1 x38_2).f2) ((rd_T25 l1 x38_2).f3) ((rd_T25 l1 x38_2).f4) = some (r1, r2, r3, r4, r5, r6, r7)) ∧ Aside0 (kq ≤ k2) ∧ Aside0 (w'.heap[gb268]? = some (.cells #[.bool x269000_1, .int .i64 x269001_1, .int .i64 x269002_1, .int .u64 x269003_1, .int .u64 x269004_1, .int .u64 x269005_1] 40 (0, 0))) ∧ Aside0 (w'.heap[gb272]? = some (.cells #[.bool x273000_3, .int .i64 x273001_3, .int .i64 x273002_3, .int .u64 x273003_3, .int .u64 x273004_3, .int .u64 x273005_3] 40 (0, 0))) ∧ Aside0 (w'.heap[gb274]? = some (.cells #[.int .i64 ((rd_T25 l1 x38_2).f0), .int .i64 ((rd_T25 l1 x38_2).f1), .int .i64 ((rd_T25 l1 x38_2).f2), (.slice A273_3 ((rd_T25 l1 x38_2).f3).length c273_3), (.slice A273_4 ((rd_T25 l1 x38_2).f4).length c273_4)] 25 (0, 0))) ∧ Aside0 (Below w.heap.size w w'))
           case atStart => exact ⟨(0), (x273000_2), (x273001_2), (x273002_2), (x273003_2), (x273004_2), (x273005_2), (by first | rfl | (simp; done) | (simp [*]; done)), H', ⟨Nat.le_refl _⟩, ⟨by (with_reducible repeat (first | refine bN ?_ _ | refine bD ?_ | refine bA ?_ _)); refine blk_far ?_ NB268_274.out _; (with_reducible repeat (first | refine bN ?_ _ | refine bD ?_ | refine bA ?_ _)); refine blk_far ?_ NB268_274.out _; (with_reducible repeat (first | refine bN ?_ _ | refine bD ?_ | refine bA ?_ _)); refine blk_far ?_ NB268_274.out _; (with_reducible repeat (first | refine bN ?_ _ | refine bD ?_ | refine bA ?_ _)); refine blk_far ?_ NB268_274.out _; (with_reducible repeat (first | refine bN ?_ _ | refine bD ?_ | refine bA ?_ _)); refine blk_far ?_ NB268_274.out _; (with_reducible repeat (first | refine bN ?_ _ | refine bD ?_ | refine bA ?_ _)); exact BK268.out⟩, ⟨by (with_reducible repeat (first | refine bN ?_ _ | refine bD ?_ | refine bA ?_ _)); refine blk_far ?_ NB272_274.out _; (with_reducible repeat (first | refine bN ?_ _ | refine bD ?_ | refine bA ?_ _)); refine blk_far ?_ NB272_274.out _; (with_reducible repeat (first | refine bN ?_ _ | refine bD ?_ | refine bA ?_ _)); refine blk_far ?_ NB272_274.out _; (with_reducible repeat (first | refine bN ?_ _ | refine bD ?_ | refine bA ?_ _)); refine blk_far ?_ NB272_274.out _; (with_reducible repeat (first | refine bN ?_ _ | refine bD ?_ | refine bA ?_ _)); refine blk_far ?_ NB272_274.out _; (with_reducible repeat (first | refine bN ?_ _ | refine bD ?_ | refine bA ?_ _)); exact BK272.out⟩, ⟨by (with_reducible repeat (first | refine bN ?_ _ | refine bD ?_ | refine bA ?_ _)); refine blk_put (cs := #[.int .i64 ((rd_T25 l1 x38_2).f0), .int .i64 ((rd_T25 l1 x38_2).f1), .int .i64 ((rd_T25 l1 x38_2).f2), .slice A273_3 ((rd_T25 l1 x38_2).f3).length c273_3, .slice none 0 0]) ?_ 4 _ rfl; (with_reducible repeat (first | refine bN ?_ _ | refine bD ?_ | refine bA ?_ _)); refine blk_put (cs := #[.int .i64 ((rd_T25 l1 x38_2).f0), .int .i64 ((rd_T25 l1 x38_2).f1), .int .i64 ((rd_T25 l1 x38_2).f2), .slice none 0 0, .slice none 0 0]) ?_ 3 _ rfl; (with_reducible repeat (first | refine bN ?_ _ | refine bD ?_ | refine bA ?_ _)); refine blk_put (cs := #[.int .i64 ((rd_T25 l1 x38_2).f0), .int .i64 ((rd_T25 l1 x38_2).f1), .int .i64 0, .slice none 0 0, .slice none 0 0]) ?_ 2 _ rfl; (with_reducible repeat (first | refine bN ?_ _ | refine bD ?_ | refine bA ?_ _)); refine blk_put (cs := #[.int .i64 ((rd_T25 l1 x38_2).f0), .int .i64 0, .int .i64 0, .slice none 0 0, .slice none 0 0]) ?_ 1 _ rfl; (with_reducible repeat (first | refine bN ?_ _ | refine bD ?_ | refine bA ?_ _)); refine blk_put (cs := #[.int .i64 0, .int .i64 0, .int .i64 0, .slice none 0 0, .slice none 0 0]) ?_ 0 _ rfl; (with_reducible repeat (first | refine bN ?_ _ | refine bD ?_ | refine bA ?_ _)); exact BK274.out⟩, ⟨by repeat (first | (with_reducible first | exact HB.out | apply lA | apply lN | apply lD | refine lS ?_ GE268.out | refine lS ?_ GE272.out | refine lS ?_ GE274.out) | exact HB.out)⟩⟩
           case round =>
            clear H'
            try clear c1
            try clear c2
            try clear p2
            try clear q2
            try clear hx2
            try clear c4
            try clear c4b0
            try clear c4b1
            try clear c4b2
            try clear c6
            try clear c6b0
            try clear p6
            try clear c7
            try clear c7b0
            try clear c8
            try clear c8b0
            try clear c10
            try clear c12
            try clear c13
            try clear c16
            try clear c18
            try clear c20
            try clear c20b0
            try clear c23
            try clear c23b0
            try clear c24
            try clear c24b0
            try clear c25
            try clear c25b0
            try clear c26
            try clear p26
            try clear q26
            try clear hx26
            try clear c27
            try clear p27
            try clear q27
            try clear hx27
            try clear c28
            try clear hcz13_0
            try clear hcz13_1
            try clear hcz13_2
            try clear hcz13_3
            try clear hcz13_4
            try clear hcz17_0
            try clear hcz17_1
            try clear hcz17_2
            try clear hcz17_3
            try clear hcz17_4
            try clear hcz19_0
            try clear hcz19_1
            try clear hcz19_2
            try clear hcz19_3
            try clear hcz19_4
            try clear hcz19_5
            try clear hcz21_0
            try clear hcz21_1
            try clear hcz21_2
            try clear hcz21_3
            try clear hcz21_4
            try clear hcz21_5
            try clear hcz29_0
            try clear hcz29_1
            try clear hcz29_2
            try clear hcz29_3
            try clear hcz29_4
            try clear hfz13_0
            try clear hfz13_1
            try clear hfz13_2
            try clear hfz13_3
            try clear hfz13_4
            try clear hfz17_0
            try clear hfz17_1
            try clear hfz17_2
            try clear hfz17_3
            try clear hfz17_4
            try clear hfz19_0
            try clear hfz19_1
            try clear hfz19_2
            try clear hfz19_3
            try clear hfz19_4
            try clear hfz19_5
            try clear hfz21_0
            try clear hfz21_1
            try clear hfz21_2
            try clear hfz21_3
            try clear hfz21_4
            try clear hfz21_5
            try clear hfz29_0
            try clear hfz29_1
            try clear hfz29_2
            try clear hfz29_3
            try clear hfz29_4
            try clear hx269_0
            try clear hx269_1
            try clear hx269_2
            try clear hx269_3
            try clear hx269_4
            try clear hx273_0
            try clear hx273_1
            try clear hx273_2
            try clear hx273_3
            try clear hx273_4
            try clear p2
            try clear p269
            try clear p273
            try clear p6
            try clear q2
            try clear q269
            try clear q273
            obtain ⟨x46_3, x273000_3, x273001_3, x273002_3, x273003_3, x273004_3, x273005_3, rfl, HA, HK3, BK268, BK272, BK274, HB⟩ := hrel
            cases gk with
            | zero => exact absurd HA.out (by simp [split_Best.l2])
            | succ k3 =>
             have H := HA.out
             clear HA
             simp only [split_Best.l2] at H
             by_cases c30 : x46_3 < (wrap64 (((rd_T25 l1 x38_2).f1) - 1))
             ·rw [if_pos c30] at H
              have c30b0 : decide (x46_3 < (wrap64 (((rd_T25 l1 x38_2).f1) - 1))) = true := decide_eq_true c30
              clear c30
              replace H := ooB.mp H
              obtain ⟨⟨t275, t276, t277, t278⟩, A310, H⟩ := H
              replace H : (if t278 = true then (if x273000_3 = true then ((frac_Cmp.f k3 t275 t276 t277 x273003_3 x273004_3 x273005_3).bind fun t280 => (if t280 > 0 then (if 0 ≤ x38_2 then (if x38_2 < (l0.length : Int) then (split_Best.l2 k3 l0 a2 x38_2 l1 (l1.length : Int) x38_2 (wrap64 (((rd_T25 l1 x38_2).f1) - 1)) (wrap64 (x46_3 + 1)) true (rd l0 x38_2) x46_3 t275 t276 t277 ((rd_T25 l1 x38_2).f0) ((rd_T25 l1 x38_2).f1) ((rd_T25 l1 x38_2).f2) ((rd_T25 l1 x38_2).f3) ((rd_T25 l1 x38_2).f4)) else (none)) else (none)) else (split_Best.l2 k3 l0 a2 x38_2 l1 (l1.length : Int) x38_2 (wrap64 (((rd_T25 l1 x38_2).f1) - 1)) (wrap64 (x46_3 + 1)) x273000_3 x273001_3 x273002_3 x273003_3 x273004_3 x273005_3 ((rd_T25 l1 x38_2).f0) ((rd_T25 l1 x38_2).f1) ((rd_T25 l1 x38_2).f2) ((rd_T25 l1 x38_2).f3) ((rd_T25 l1 x38_2).f4)))) else (if 0 ≤ x38_2 then (if x38_2 < (l0.length : Int) then (split_Best.l2 k3 l0 a2 x38_2 l1 (l1.length : Int) x38_2 (wrap64 (((rd_T25 l1 x38_2).f1) - 1)) (wrap64 (x46_3 + 1)) true (rd l0 x38_2) x46_3 t275 t276 t277 ((rd_T25 l1 x38_2).f0) ((rd_T25 l1 x38_2).f1) ((rd_T25 l1 x38_2).f2) ((rd_T25 l1 x38_2).f3) ((rd_T25 l1 x38_2).f4)) else (none)) else (none))) else (split_Best.l2 k3 l0 a2 x38_2 l1 (l1.length : Int) x38_2 (wrap64 (((rd_T25 l1 x38_2).f1) - 1)) (wrap64 (x46_3 + 1)) x273000_3 x273001_3 x273002_3 x273003_3 x273004_3 x273005_3 ((rd_T25 l1 x38_2).f0) ((rd_T25 l1 x38_2).f1) ((rd_T25 l1 x38_2).f2) ((rd_T25 l1 x38_2).f3) ((rd_T25 l1 x38_2).f4))) = some (r1, r2, r3, r4, r5, r6, r7) := H
              have A31 := aaM A310
              clear A310
              by_cases c32 : t278 = true
              ·subst c32
               have H1 : (if x273000_3 = true then ((frac_Cmp.f k3 t275 t276 t277 x273003_3 x273004_3 x273005_3).bind fun t280 => (if t280 > 0 then (if 0 ≤ x38_2 then (if x38_2 < (l0.length : Int) then (split_Best.l2 k3 l0 a2 x38_2 l1 (l1.length : Int) x38_2 (wrap64 (((rd_T25 l1 x38_2).f1) - 1)) (wrap64 (x46_3 + 1)) true (rd l0 x38_2) x46_3 t275 t276 t277 ((rd_T25 l1 x38_2).f0) ((rd_T25 l1 x38_2).f1) ((rd_T25 l1 x38_2).f2) ((rd_T25 l1 x38_2).f3) ((rd_T25 l1 x38_2).f4)) else (none)) else (none)) else (split_Best.l2 k3 l0 a2 x38_2 l1 (l1.length : Int) x38_2 (wrap64 (((rd_T25 l1 x38_2).f1) - 1)) (wrap64 (x46_3 + 1)) x273000_3 x273001_3 x273002_3 x273003_3 x273004_3 x273005_3 ((rd_T25 l1 x38_2).f0) ((rd_T25 l1 x38_2).f1) ((rd_T25 l1 x38_2).f2) ((rd_T25 l1 x38_2).f3) ((rd_T25 l1 x38_2).f4)))) else (if 0 ≤ x38_2 then (if x38_2 < (l0.length : Int) then (split_Best.l2 k3 l0 a2 x38_2 l1 (l1.length : Int) x38_2 (wrap64 (((rd_T25 l1 x38_2).f1) - 1)) (wrap64 (x46_3 + 1)) true (rd l0 x38_2) x46_3 t275 t276 t277 ((rd_T25 l1 x38_2).f0) ((rd_T25 l1 x38_2).f1) ((rd_T25 l1 x38_2).f2) ((rd_T25 l1 x38_2).f3) ((rd_T25 l1 x38_2).f4)) else (none)) else (none))) = some (r1, r2, r3, r4, r5, r6, r7) := by rw [if_pos rfl] at H; exact H
               clear H
               have H := H1
               clear H1
               by_cases c33 : x273000_3 = true
               ·subst c33
                have H1 : ((frac_Cmp.f k3 t275 t276 t277 x273003_3 x273004_3 x273005_3).bind fun t280 => (if t280 > 0 then (if 0 ≤ x38_2 then (if x38_2 < (l0.length : Int) then (split_Best.l2 k3 l0 a2 x38_2 l1 (l1.length : Int) x38_2 (wrap64 (((rd_T25 l1 x38_2).f1) - 1)) (wrap64 (x46_3 + 1)) true (rd l0 x38_2) x46_3 t275 t276 t277 ((rd_T25 l1 x38_2).f0) ((rd_T25 l1 x38_2).f1) ((rd_T25 l1 x38_2).f2) ((rd_T25 l1 x38_2).f3) ((rd_T25 l1 x38_2).f4)) else (none)) else (none)) else (split_Best.l2 k3 l0 a2 x38_2 l1 (l1.length : Int) x38_2 (wrap64 (((rd_T25 l1 x38_2).f1) - 1)) (wrap64 (x46_3 + 1)) true x273001_3 x273002_3 x273003_3 x273004_3 x273005_3 ((rd_T25 l1 x38_2).f0) ((rd_T25 l1 x38_2).f1) ((rd_T25 l1 x38_2).f2) ((rd_T25 l1 x38_2).f3) ((rd_T25 l1 x38_2).f4)))) = some (r1, r2, r3, r4, r5, r6, r7) := by rw [if_pos rfl] at H; exact H
                clear H
                have H := H1
                clear H1
                replace H := ooB.mp H
                obtain ⟨t280, A340, H⟩ := H
                replace H : (if t280 > 0 then (if 0 ≤ x38_2 then (if x38_2 < (l0.length : Int) then (split_Best.l2 k3 l0 a2 x38_2 l1 (l1.length : Int) x38_2 (wrap64 (((rd_T25 l1 x38_2).f1) - 1)) (wrap64 (x46_3 + 1)) true (rd l0 x38_2) x46_3 t275 t276 t277 ((rd_T25 l1 x38_2).f0) ((rd_T25 l1 x38_2).f1) ((rd_T25 l1 x38_2).f2) ((rd_T25 l1 x38_2).f3) ((rd_T25 l1 x38_2).f4)) else (none)) else (none)) else (split_Best.l2 k3 l0 a2 x38_2 l1 (l1.length : Int) x38_2 (wrap64 (((rd_T25 l1 x38_2).f1) - 1)) (wrap64 (x46_3 + 1)) true x273001_3 x273002_3 x273003_3 x273004_3 x273005_3 ((rd_T25 l1 x38_2).f0) ((rd_T25 l1 x38_2).f1) ((rd_T25 l1 x38_2).f2) ((rd_T25 l1 x38_2).f3) ((rd_T25 l1 x38_2).f4))) = some (r1, r2, r3, r4, r5, r6, r7) := H
                have A34 := aaM A340
                clear A340
                by_cases c35 : t280 > 0
                ·rw [if_pos c35] at H
                 have c35b0 : decide (0 < t280) = true := decide_eq_true c35
                 clear c35
                 by_cases c36 : 0 ≤ x38_2
                 ·rw [if_pos c36] at H
                  have c36b0 : decide (0 ≤ x38_2) = true := decide_eq_true c36
                  clear c36
                  by_cases c37 : x38_2 < (l0.length : Int)
                  ·rw [if_pos c37] at H
                   have c37b0 : decide (x38_2 < (l0.length : Int)) = true := decide_eq_true c37
                   clear c37
                   have H' := aaM H
                   clear H
                   have hnb38 := NB274_268.out
                   have hnc38 := NB268_274.out
                   have hnb39 := NB274_272.out
                   have hnc39 := NB272_274.out
                   obtain ⟨hcz40_0, hcz40_1, hcz40_2, hcz40_3, hcz40_4, hfz40_0, hfz40_1, hfz40_2, hfz40_3, hfz40_4⟩ := bE5 BK274.out
                   try go_wp2_with (first | ((with_reducible refine gate_callee (f := 10) rfl ?_); refine goesL_ (some 53) rfl rfl Try.func10 (by kernel_rfl) rfl #[.agg #[.int .i64 ((rd_T25 l1 x38_2).f0), .int .i64 ((rd_T25 l1 x38_2).f1), .int .i64 ((rd_T25 l1 x38_2).f2), .slice A273_3 ((rd_T25 l1 x38_2).f3).length c273_3, .slice A273_4 ((rd_T25 l1 x38_2).f4).length c273_4], .int .i64 x46_3, .int .i64 a2] rfl (by (try simp only [mmT, mmC, mmN]); first | done | rfl | (simp only [ddD, ddT]; rfl)) ?_; (with_reducible refine (split_Cut.calls k3 ((rd_T25 l1 x38_2).f0) ((rd_T25 l1 x38_2).f1) ((rd_T25 l1 x38_2).f2) _ _ ((rd_T25 l1 x38_2).f3) _ _ ((rd_T25 l1 x38_2).f4) x46_3 a2 t275 t276 t277 true _ ?side1 ?side2 ?side3 ?side4 A31.out).mono ?_); (case side1 => repeat (first | exact (ccB HR273_3.out HB.out) | (with_reducible refine ccA ?_ _) | (with_reducible refine ccN ?_ _) | (with_reducible refine ccD ?_))); (case side2 => exact HC273_3.out); (case side3 => repeat (first | exact (ccB HR273_4.out HB.out) | (with_reducible refine ccA ?_ _) | (with_reducible refine ccN ?_ _) | (with_reducible refine ccD ?_))); (case side4 => exact HC273_4.out); rintro e w41 ⟨rfl, hb⟩; refine ⟨_, rfl, ?_⟩; replace BK268 := aaM (bX hb BK268.out); replace BK272 := aaM (bX hb BK272.out); replace BK274 := aaM (bX hb BK274.out); replace HB := aaM (lP (by repeat (first | (with_reducible first | exact HB.out | apply lA | apply lN | apply lD | refine lS ?_ GE268.out | refine lS ?_ GE272.out | refine lS ?_ GE274.out) | exact HB.out)) hb); (try clear hb); (try clear hb2); (try clear hk); (try clear hi)) | ((with_reducible refine gate_dst (N := 14) rfl ?_); refine box_event ?hg (N := 14) ?hd (cs := #[.int .u64 0, .int .u64 0, .int .u64 0]) (t := 32) ?hr ?_; (case hd => rfl); (case hg => rfl); (case hr => first | (go_simp; done) | (go_simp; rfl)); intro gb279 hg w42 hbox hb; have hP_ := lQ (by repeat (first | (with_reducible first | exact HB.out | apply lA | apply lN | apply lD | refine lS ?_ GE268.out | refine lS ?_ GE272.out | refine lS ?_ GE274.out) | exact HB.out)) hb; replace HB := aaM hP_.1; have BK279 := aaM (hbox); have GW279 := aaM (gQ hg hP_.2); have GE279 := aaM (gQ hg hP_.2); have NB268_279 := aaM (nL hg BK268.out); have NB279_268 := aaM (nL hg BK268.out).symm; replace BK268 := aaM (bX hb BK268.out); have NB272_279 := aaM (nL hg BK272.out); have NB279_272 := aaM (nL hg BK272.out).symm; replace BK272 := aaM (bX hb BK272.out); have NB274_279 := aaM (nL hg BK274.out); have NB279_274 := aaM (nL hg BK274.out).symm; replace BK274 := aaM (bX hb BK274.out); clear hP_ hb hbox hg; have hnb43 := NB279_268.out; have hnc43 := NB268_279.out; have hnb44 := NB279_272.out; have hnc44 := NB272_279.out; have hnb45 := NB279_274.out; have hnc45 := NB274_279.out; obtain ⟨hcz46_0, hcz46_1, hcz46_2, hfz46_0, hfz46_1, hfz46_2⟩ := bE3 BK279.out; have hnb47 := NB272_268.out; have hnc47 := NB268_272.out; obtain ⟨hcz48_0, hcz48_1, hcz48_2, hcz48_3, hcz48_4, hcz48_5, hfz48_0, hfz48_1, hfz48_2, hfz48_3, hfz48_4, hfz48_5⟩ := bE6 BK272.out) | (go_at_call 21; (with_reducible refine (frac_Cmp.calls k3 t275 t276 t277 x273003_3 x273004_3 x273005_3 t280 _ A34.out).mono ?_); rintro e w49 ⟨rfl, hb⟩; replace BK268 := aaM (bB (g := gb268) (o := .cells #[.bool x269000_1, .int .i64 x269001_1, .int .i64 x269002_1, .int .u64 x269003_1, .int .u64 x269004_1, .int .u64 x269005_1] 40 (0, 0)) (by (with_reducible repeat (first | refine bN ?_ _ | refine bD ?_ | refine bA ?_ _)); refine blk_far ?_ NB268_279.out _; (with_reducible repeat (first | refine bN ?_ _ | refine bD ?_ | refine bA ?_ _)); refine blk_far ?_ NB268_279.out _; (with_reducible repeat (first | refine bN ?_ _ | refine bD ?_ | refine bA ?_ _)); refine blk_far ?_ NB268_279.out _; (with_reducible repeat (first | refine bN ?_ _ | refine bD ?_ | refine bA ?_ _)); exact BK268.out) hb); replace BK272 := aaM (bB (g := gb272) (o := .cells #[.bool true, .int .i64 x273001_3, .int .i64 x273002_3, .int .u64 x273003_3, .int .u64 x273004_3, .int .u64 x273005_3] 40 (0, 0)) (by (with_reducible repeat (first | refine bN ?_ _ | refine bD ?_ | refine bA ?_ _)); refine blk_far ?_ NB272_279.out _; (with_reducible repeat (first | refine bN ?_ _ | refine bD ?_ | refine bA ?_ _)); refine blk_far ?_ NB272_279.out _; (with_reducible repeat (first | refine bN ?_ _ | refine bD ?_ | refine bA ?_ _)); refine blk_far ?_ NB272_279.out _; (with_reducible repeat (first | refine bN ?_ _ | refine bD ?_ | refine bA ?_ _)); exact BK272.out) hb); replace BK274 := aaM (bB (g := gb274) (o := .cells #[.int .i64 ((rd_T25 l1 x38_2).f0), .int .i64 ((rd_T25 l1 x38_2).f1), .int .i64 ((rd_T25 l1 x38_2).f2), .slice A273_3 ((rd_T25 l1 x38_2).f3).length c273_3, .slice A273_4 ((rd_T25 l1 x38_2).f4).length c273_4] 25 (0, 0)) (by (with_reducible repeat (first | refine bN ?_ _ | refine bD ?_ | refine bA ?_ _)); refine blk_far ?_ NB274_279.out _; (with_reducible repeat (first | refine bN ?_ _ | refine bD ?_ | refine bA ?_ _)); refine blk_far ?_ NB274_279.out _; (with_reducible repeat (first | refine bN ?_ _ | refine bD ?_ | refine bA ?_ _)); refine blk_far ?_ NB274_279.out _; (with_reducible repeat (first | refine bN ?_ _ | refine bD ?_ | refine bA ?_ _)); exact BK274.out) hb); replace BK279 := aaM (bB (g := gb279) (o := .cells #[.int .u64 t275, .int .u64 t276, .int .u64 t277] 32 (0, 0)) (by (with_reducible repeat (first | refine bN ?_ _ | refine bD ?_ | refine bA ?_ _)); refine blk_put (cs := #[.int .u64 t275, .int .u64 t276, .int .u64 0]) ?_ 2 _ rfl; (with_reducible repeat (first | refine bN ?_ _ | refine bD ?_ | refine bA ?_ _)); refine blk_put (cs := #[.int .u64 t275, .int .u64 0, .int .u64 0]) ?_ 1 _ rfl; (with_reducible repeat (first | refine bN ?_ _ | refine bD ?_ | refine bA ?_ _)); refine blk_put (cs := #[.int .u64 0, .int .u64 0, .int .u64 0]) ?_ 0 _ rfl; (with_reducible repeat (first | refine bN ?_ _ | refine bD ?_ | refine bA ?_ _)); exact BK279.out) hb); replace HB := aaM (lP (by repeat (first | (with_reducible first | exact HB.out | apply lA | apply lN | apply lD | refine lS ?_ GE268.out | refine lS ?_ GE272.out | refine lS ?_ GE274.out | refine lS ?_ GE279.out) | exact HB.out)) hb); (try clear hb); (try clear hb2); (try clear hk); (try clear hi)))
                   replace BK268 := aaM (bD BK268.out)
                   replace BK272 := aaM (bD BK272.out)
                   replace BK274 := aaM (bD BK274.out)
                   replace BK279 := aaM (bD BK279.out)
                   replace HB := aaM (lD HB.out)
                   have p281 : 0 ≤ (x38_2 : Int) := of_decide_eq_true (by first | (with_reducible assumption) | assumption)
                   have q281 : x38_2 < (l0.length : Int) := of_decide_eq_true (by first | (with_reducible assumption) | assumption)
                   obtain ⟨ad281, e281, hx281_0⟩ := Kd.at_int HR0.out x38_2 p281 q281
                   have hw281_0 := hx281_0
                   cases e281
                   replace hx281_0 := (HB.out.cell (World.block_lt_of_cell? w _ hx281_0)).trans hx281_0
                   replace p281 := eq_true p281
                   replace q281 := eq_true q281
                   refine start_ (n := 8) (S := fun w' => w'.cell? ⟨gb279, 0, none⟩ = some (.int .u64 t275) ∧ w'.cell? ⟨gb279, 1, none⟩ = some (.int .u64 t276) ∧ w'.cell? ⟨gb279, 2, none⟩ = some (.int .u64 t277) ∧ w'.cell? (ad281.add (x38_2).toNat) = some (.int .i64 (rd l0 x38_2))) (ds := []) #[false, false, false, false, false, false, false, false] (by kernel_rfl) rfl rfl ⟨(bC BK279.out 0).trans rfl, (bC BK279.out 1).trans rfl, (bC BK279.out 2).trans rfl, ((HB.out.cell (World.block_lt_of_cell? w _ hw281_0)).trans hw281_0)⟩ (fun hHeld => ?_); refine with_tabW split_Best.tab20 split_Best.bits20 (fun HT_ HW_ => ?_)
                   generalize w49.drew = w50 at BK268 BK272 BK274 BK279 HB hx281_0 hHeld ⊢
                   refine pure_ (i := 0) (N := some 69) (v := ?_) (a' := ?_) #[true, false, false, false, false, false, false, false] rfl rfl (any_of HT_.out (by kernel_rfl)) (fun _ _ _ h => h) (Or.inl ⟨by rfl, ?_⟩) ?_ ?_
                   rotate_left
                   ·intro w'
                    go_simp
                    with_reducible rfl
                   rotate_left
                   ·simp only [Act.put, ssB, ssZ, ssS, i64_w, i32_w]
                    rfl
                   refine pure_ (i := 1) (N := some 70) (v := ?_) (a' := ?_) #[true, true, false, false, false, false, false, false] rfl rfl (any_of HT_.out (by kernel_rfl)) (fun _ _ _ h => h) (Or.inl ⟨by rfl, ?_⟩) ?_ ?_
                   rotate_left
                   ·intro w'
                    go_simp
                    with_reducible rfl
                   rotate_left
                   ·simp only [Act.put, ssB, ssZ, ssS, i64_w, i32_w]
                    rfl
                   refine pure_ (i := 2) (N := some 71) (v := ?_) (a' := ?_) #[true, true, true, false, false, false, false, false] rfl rfl (any_of HT_.out (by kernel_rfl)) (fun _ _ _ h => h) (Or.inl ⟨by rfl, ?_⟩) ?_ ?_
                   rotate_left
                   ·intro w'
                    go_simp
                    with_reducible rfl
                   rotate_left
                   ·simp only [Act.put, ssB, ssZ, ssS, i64_w, i32_w]
                    rfl
                   refine pure_ (i := 4) (N := some 73) (v := ?_) (a' := ?_) #[true, true, true, false, true, false, false, false] rfl rfl (any_of HT_.out (by kernel_rfl)) (fun _ _ _ h => h) (Or.inl ⟨by rfl, ?_⟩) ?_ ?_
                   rotate_left
                   ·intro w'
                    go_simp
                    with_reducible rfl
                   rotate_left
                   ·simp only [Act.put, ssB, ssZ, ssS, i64_w, i32_w]
                    rfl
                   refine take_ (i := 3) (N := some 72) (v := ?_) (a' := ?_) #[true, true, true, true, true, false, false, false] rfl rfl (take_ofW HT_.out HW_.out (by kernel_rfl)) (fun _ _ _ h => h) (Or.inl ⟨by rfl, ?_⟩) hHeld ?_ ?_
                   rotate_left
                   ·rintro w' ⟨s0, s1, s2, s3⟩
                    go_simp
                    with_reducible rfl
                   rotate_left
                   ·simp only [Act.put, ssB, ssZ, ssS, i64_w, i32_w]
                    rfl
                   refine take_ (i := 5) (N := some 74) (v := ?_) (a' := ?_) #[true, true, true, true, true, true, false, false] rfl rfl (take_ofW HT_.out HW_.out (by kernel_rfl)) (fun _ _ _ h => h) (Or.inl ⟨by rfl, ?_⟩) hHeld ?_ ?_
                   rotate_left
                   ·rintro w' ⟨s0, s1, s2, s3⟩
                    go_simp
                    with_reducible rfl
                   rotate_left
                   ·simp only [Act.put, ssB, ssZ, ssS, i64_w, i32_w]
                    rfl
                   refine pure_ (i := 6) (N := some 75) (v := ?_) (a' := ?_) #[true, true, true, true, true, true, true, false] rfl rfl (any_of HT_.out (by kernel_rfl)) (fun _ _ _ h => h) (Or.inl ⟨by rfl, ?_⟩) ?_ ?_
                   rotate_left
                   ·intro w'
                    go_simp
                    with_reducible rfl
                   rotate_left
                   ·simp only [Act.put, ssB, ssZ, ssS, i64_w, i32_w]
                    rfl
                   refine one_ (i := 7) (N := none) #[true, true, true, true, true, true, true, true] rfl rfl (one_of HT_.out (by kernel_rfl)) (by decide) (fun K hK => ?_)
                   obtain ⟨hs51, -, -, -, -, -, hfs51, -, -, -, -, -⟩ := bE6 BK272.out
                   have hns51_0 := NB268_272.out
                   have hns51_2 := NB274_272.out
                   have hns51_3 := NB279_272.out
                   have hms51_0 := NB272_268.out
                   have hms51_2 := NB272_274.out
                   have hms51_3 := NB272_279.out
                   obtain ⟨-, hs52, -, -, -, -, -, hfs52, -, -, -, -⟩ := bE6 BK272.out
                   have hns52_0 := NB268_272.out
                   have hns52_2 := NB274_272.out
                   have hns52_3 := NB279_272.out
                   have hms52_0 := NB272_268.out
                   have hms52_2 := NB272_274.out
                   have hms52_3 := NB272_279.out
                   obtain ⟨-, -, hs53, -, -, -, -, -, hfs53, -, -, -⟩ := bE6 BK272.out
                   have hns53_0 := NB268_272.out
                   have hns53_2 := NB274_272.out
                   have hns53_3 := NB279_272.out
                   have hms53_0 := NB272_268.out
                   have hms53_2 := NB272_274.out
                   have hms53_3 := NB272_279.out
                   obtain ⟨-, -, -, hs54, -, -, -, -, -, hfs54, -, -⟩ := bE6 BK272.out
                   have hns54_0 := NB268_272.out
                   have hns54_2 := NB274_272.out
                   have hns54_3 := NB279_272.out
                   have hms54_0 := NB272_268.out
                   have hms54_2 := NB272_274.out
                   have hms54_3 := NB272_279.out
                   obtain ⟨-, -, -, -, hs55, -, -, -, -, -, hfs55, -⟩ := bE6 BK272.out
                   have hns55_0 := NB268_272.out
                   have hns55_2 := NB274_272.out
                   have hns55_3 := NB279_272.out
                   have hms55_0 := NB272_268.out
                   have hms55_2 := NB272_274.out
                   have hms55_3 := NB272_279.out
                   obtain ⟨-, -, -, -, -, hs56, -, -, -, -, -, hfs56⟩ := bE6 BK272.out
                   have hns56_0 := NB268_272.out
                   have hns56_2 := NB274_272.out
                   have hns56_3 := NB279_272.out
                   have hms56_0 := NB272_268.out
                   have hms56_2 := NB272_274.out
                   have hms56_3 := NB272_279.out
                   refine skip_ (w1 := ?_) (by rfl) rfl ?_ ?_
                   rotate_left
                   ·go_simp
                    rfl
                   refine hK.out _ _ ⟨((cell_far (p := ⟨gb272, _, none⟩) NB279_272.out _).trans (((cell_far (p := ⟨gb272, _, none⟩) NB279_272.out _).trans (((cell_far (p := ⟨gb272, _, none⟩) NB279_272.out _).trans (((cell_far (p := ⟨gb272, _, none⟩) NB279_272.out _).trans (((cell_far (p := ⟨gb272, _, none⟩) NB279_272.out _).trans (((cell_far (p := ⟨gb272, _, none⟩) NB279_272.out _).trans (hHeld.1)))))))))))), ((cell_far (p := ⟨gb272, _, none⟩) NB279_272.out _).trans (((cell_far (p := ⟨gb272, _, none⟩) NB279_272.out _).trans (((cell_far (p := ⟨gb272, _, none⟩) NB279_272.out _).trans (((cell_far (p := ⟨gb272, _, none⟩) NB279_272.out _).trans (((cell_far (p := ⟨gb272, _, none⟩) NB279_272.out _).trans (((cell_far (p := ⟨gb272, _, none⟩) NB279_272.out _).trans (hHeld.2.1)))))))))))), ((cell_far (p := ⟨gb272, _, none⟩) NB279_272.out _).trans (((cell_far (p := ⟨gb272, _, none⟩) NB279_272.out _).trans (((cell_far (p := ⟨gb272, _, none⟩) NB279_272.out _).trans (((cell_far (p := ⟨gb272, _, none⟩) NB279_272.out _).trans (((cell_far (p := ⟨gb272, _, none⟩) NB279_272.out _).trans (((cell_far (p := ⟨gb272, _, none⟩) NB279_272.out _).trans (hHeld.2.2.1)))))))))))), ((cell_far (p := ⟨gb272, _, none⟩) (by first | exact Nat.ne_of_lt (Nat.lt_of_lt_of_le (by have := World.block_lt_of_cell? _ _ hw281_0; first | rwa [add_block] at this | exact this) GW272.out) | (rw [add_block]; exact Nat.ne_of_lt (Nat.lt_of_lt_of_le (by have := World.block_lt_of_cell? _ _ hw281_0; first | rwa [add_block] at this | exact this) GW272.out)) | (show (Addr.add _ _).block ≠ _; rw [add_block]; exact Nat.ne_of_lt (Nat.lt_of_lt_of_le (by have := World.block_lt_of_cell? _ _ hw281_0; first | rwa [add_block] at this | exact this) GW272.out)) | (dsimp only; exact Nat.ne_of_lt (Nat.lt_of_lt_of_le (by have := World.block_lt_of_cell? _ _ hw281_0; first | rwa [add_block] at this | exact this) GW272.out))) _).trans (((cell_far (p := ⟨gb272, _, none⟩) (by first | exact Nat.ne_of_lt (Nat.lt_of_lt_of_le (by have := World.block_lt_of_cell? _ _ hw281_0; first | rwa [add_block] at this | exact this) GW272.out) | (rw [add_block]; exact Nat.ne_of_lt (Nat.lt_of_lt_of_le (by have := World.block_lt_of_cell? _ _ hw281_0; first | rwa [add_block] at this | exact this) GW272.out)) | (show (Addr.add _ _).block ≠ _; rw [add_block]; exact Nat.ne_of_lt (Nat.lt_of_lt_of_le (by have := World.block_lt_of_cell? _ _ hw281_0; first | rwa [add_block] at this | exact this) GW272.out)) | (dsimp only; exact Nat.ne_of_lt (Nat.lt_of_lt_of_le (by have := World.block_lt_of_cell? _ _ hw281_0; first | rwa [add_block] at this | exact this) GW272.out))) _).trans (((cell_far (p := ⟨gb272, _, none⟩) (by first | exact Nat.ne_of_lt (Nat.lt_of_lt_of_le (by have := World.block_lt_of_cell? _ _ hw281_0; first | rwa [add_block] at this | exact this) GW272.out) | (rw [add_block]; exact Nat.ne_of_lt (Nat.lt_of_lt_of_le (by have := World.block_lt_of_cell? _ _ hw281_0; first | rwa [add_block] at this | exact this) GW272.out)) | (show (Addr.add _ _).block ≠ _; rw [add_block]; exact Nat.ne_of_lt (Nat.lt_of_lt_of_le (by have := World.block_lt_of_cell? _ _ hw281_0; first | rwa [add_block] at this | exact this) GW272.out)) | (dsimp only; exact Nat.ne_of_lt (Nat.lt_of_lt_of_le (by have := World.block_lt_of_cell? _ _ hw281_0; first | rwa [add_block] at this | exact this) GW272.out))) _).trans (((cell_far (p := ⟨gb272, _, none⟩) (by first | exact Nat.ne_of_lt (Nat.lt_of_lt_of_le (by have := World.block_lt_of_cell? _ _ hw281_0; first | rwa [add_block] at this | exact this) GW272.out) | (rw [add_block]; exact Nat.ne_of_lt (Nat.lt_of_lt_of_le (by have := World.block_lt_of_cell? _ _ hw281_0; first | rwa [add_block] at this | exact this) GW272.out)) | (show (Addr.add _ _).block ≠ _; rw [add_block]; exact Nat.ne_of_lt (Nat.lt_of_lt_of_le (by have := World.block_lt_of_cell? _ _ hw281_0; first | rwa [add_block] at this | exact this) GW272.out)) | (dsimp only; exact Nat.ne_of_lt (Nat.lt_of_lt_of_le (by have := World.block_lt_of_cell? _ _ hw281_0; first | rwa [add_block] at this | exact this) GW272.out))) _).trans (((cell_far (p := ⟨gb272, _, none⟩) (by first | exact Nat.ne_of_lt (Nat.lt_of_lt_of_le (by have := World.block_lt_of_cell? _ _ hw281_0; first | rwa [add_block] at this | exact this) GW272.out) | (rw [add_block]; exact Nat.ne_of_lt (Nat.lt_of_lt_of_le (by have := World.block_lt_of_cell? _ _ hw281_0; first | rwa [add_block] at this | exact this) GW272.out)) | (show (Addr.add _ _).block ≠ _; rw [add_block]; exact Nat.ne_of_lt (Nat.lt_of_lt_of_le (by have := World.block_lt_of_cell? _ _ hw281_0; first | rwa [add_block] at this | exact this) GW272.out)) | (dsimp only; exact Nat.ne_of_lt (Nat.lt_of_lt_of_le (by have := World.block_lt_of_cell? _ _ hw281_0; first | rwa [add_block] at this | exact this) GW272.out))) _).trans (((cell_far (p := ⟨gb272, _, none⟩) (by first | exact Nat.ne_of_lt (Nat.lt_of_lt_of_le (by have := World.block_lt_of_cell? _ _ hw281_0; first | rwa [add_block] at this | exact this) GW272.out) | (rw [add_block]; exact Nat.ne_of_lt (Nat.lt_of_lt_of_le (by have := World.block_lt_of_cell? _ _ hw281_0; first | rwa [add_block] at this | exact this) GW272.out)) | (show (Addr.add _ _).block ≠ _; rw [add_block]; exact Nat.ne_of_lt (Nat.lt_of_lt_of_le (by have := World.block_lt_of_cell? _ _ hw281_0; first | rwa [add_block] at this | exact this) GW272.out)) | (dsimp only; exact Nat.ne_of_lt (Nat.lt_of_lt_of_le (by have := World.block_lt_of_cell? _ _ hw281_0; first | rwa [add_block] at this | exact this) GW272.out))) _).trans (hHeld.2.2.2))))))))))))⟩ (fun hHeld => ?_)
                   clear hK K
                   refine done_ (done_of HT_.out (by kernel_rfl)) ?_
                   try go_wp2
                   go_roundg k3
                   case measure => have := HK1.out; have := HK2.out; have := HK3.out; omega
                   case rel => exact ⟨(wrap64 (x46_3 + 1)), (true), (rd l0 x38_2), (x46_3), (t275), (t276), (t277), (by first | rfl | (simp; done) | (simp [*]; done)), H', ⟨by have := HK1.out; have := HK2.out; have := HK3.out; omega⟩, ⟨by (with_reducible repeat (first | refine bN ?_ _ | refine bD ?_ | refine bA ?_ _)); refine blk_far ?_ NB268_272.out _; (with_reducible repeat (first | refine bN ?_ _ | refine bD ?_ | refine bA ?_ _)); refine blk_far ?_ NB268_272.out _; (with_reducible repeat (first | refine bN ?_ _ | refine bD ?_ | refine bA ?_ _)); refine blk_far ?_ NB268_272.out _; (with_reducible repeat (first | refine bN ?_ _ | refine bD ?_ | refine bA ?_ _)); refine blk_far ?_ NB268_272.out _; (with_reducible repeat (first | refine bN ?_ _ | refine bD ?_ | refine bA ?_ _)); refine blk_far ?_ NB268_272.out _; (with_reducible repeat (first | refine bN ?_ _ | refine bD ?_ | refine bA ?_ _)); refine blk_far ?_ NB268_272.out _; (with_reducible repeat (first | refine bN ?_ _ | refine bD ?_ | refine bA ?_ _)); exact BK268.out⟩, ⟨by (with_reducible repeat (first | refine bN ?_ _ | refine bD ?_ | refine bA ?_ _)); refine blk_put (cs := #[.bool true, .int .i64 (rd l0 x38_2), .int .i64 x46_3, .int .u64 t275, .int .u64 t276, .int .u64 x273005_3]) ?_ 5 _ rfl; (with_reducible repeat (first | refine bN ?_ _ | refine bD ?_ | refine bA ?_ _)); refine blk_put (cs := #[.bool true, .int .i64 (rd l0 x38_2), .int .i64 x46_3, .int .u64 t275, .int .u64 x273004_3, .int .u64 x273005_3]) ?_ 4 _ rfl; (with_reducible repeat (first | refine bN ?_ _ | refine bD ?_ | refine bA ?_ _)); refine blk_put (cs := #[.bool true, .int .i64 (rd l0 x38_2), .int .i64 x46_3, .int .u64 x273003_3, .int .u64 x273004_3, .int .u64 x273005_3]) ?_ 3 _ rfl; (with_reducible repeat (first | refine bN ?_ _ | refine bD ?_ | refine bA ?_ _)); refine blk_put (cs := #[.bool true, .int .i64 (rd l0 x38_2), .int .i64 x273002_3, .int .u64 x273003_3, .int .u64 x273004_3, .int .u64 x273005_3]) ?_ 2 _ rfl; (with_reducible repeat (first | refine bN ?_ _ | refine bD ?_ | refine bA ?_ _)); refine blk_put (cs := #[.bool true, .int .i64 x273001_3, .int .i64 x273002_3, .int .u64 x273003_3, .int .u64 x273004_3, .int .u64 x273005_3]) ?_ 1 _ rfl; (with_reducible repeat (first | refine bN ?_ _ | refine bD ?_ | refine bA ?_ _)); refine blk_put (cs := #[.bool true, .int .i64 x273001_3, .int .i64 x273002_3, .int .u64 x273003_3, .int .u64 x273004_3, .int .u64 x273005_3]) ?_ 0 _ rfl; (with_reducible repeat (first | refine bN ?_ _ | refine bD ?_ | refine bA ?_ _)); exact BK272.out⟩, ⟨by (with_reducible repeat (first | refine bN ?_ _ | refine bD ?_ | refine bA ?_ _)); refine blk_far ?_ NB274_272.out _; (with_reducible repeat (first | refine bN ?_ _ | refine bD ?_ | refine bA ?_ _)); refine blk_far ?_ NB274_272.out _; (with_reducible repeat (first | refine bN ?_ _ | refine bD ?_ | refine bA ?_ _)); refine blk_far ?_ NB274_272.out _; (with_reducible repeat (first | refine bN ?_ _ | refine bD ?_ | refine bA ?_ _)); refine blk_far ?_ NB274_272.out _; (with_reducible repeat (first | refine bN ?_ _ | refine bD ?_ | refine bA ?_ _)); refine blk_far ?_ NB274_272.out _; (with_reducible repeat (first | refine bN ?_ _ | refine bD ?_ | refine bA ?_ _)); refine blk_far ?_ NB274_272.out _; (with_reducible repeat (first | refine bN ?_ _ | refine bD ?_ | refine bA ?_ _)); exact BK274.out⟩, ⟨by repeat (first | (with_reducible first | exact HB.out | apply lA | apply lN | apply lD | refine lS ?_ GE268.out | refine lS ?_ GE272.out | refine lS ?_ GE274.out | refine lS ?_ GE279.out) | exact HB.out)⟩⟩
                  ·rw [if_neg c37] at H
                   exact absurd H (by simp)
                 ·rw [if_neg c36] at H
                  exact absurd H (by simp)
                ·rw [if_neg c35] at H
                 have c35b0 : decide (0 < t280) = false := decide_eq_false c35
                 clear c35
                 have H' := aaM H
                 clear H
                 have hnb57 := NB274_268.out
                 have hnc57 := NB268_274.out
                 have hnb58 := NB274_272.out
                 have hnc58 := NB272_274.out
                 obtain ⟨hcz59_0, hcz59_1, hcz59_2, hcz59_3, hcz59_4, hfz59_0, hfz59_1, hfz59_2, hfz59_3, hfz59_4⟩ := bE5 BK274.out
                 go_wp2_with (first | ((with_reducible refine gate_callee (f := 10) rfl ?_); refine goesL_ (some 53) rfl rfl Try.func10 (by kernel_rfl) rfl #[.agg #[.int .i64 ((rd_T25 l1 x38_2).f0), .int .i64 ((rd_T25 l1 x38_2).f1), .int .i64 ((rd_T25 l1 x38_2).f2), .slice A273_3 ((rd_T25 l1 x38_2).f3).length c273_3, .slice A273_4 ((rd_T25 l1 x38_2).f4).length c273_4], .int .i64 x46_3, .int .i64 a2] rfl (by (try simp only [mmT, mmC, mmN]); first | done | rfl | (simp only [ddD, ddT]; rfl)) ?_; (with_reducible refine (split_Cut.calls k3 ((rd_T25 l1 x38_2).f0) ((rd_T25 l1 x38_2).f1) ((rd_T25 l1 x38_2).f2) _ _ ((rd_T25 l1 x38_2).f3) _ _ ((rd_T25 l1 x38_2).f4) x46_3 a2 t275 t276 t277 true _ ?side1 ?side2 ?side3 ?side4 A31.out).mono ?_); (case side1 => repeat (first | exact (ccB HR273_3.out HB.out) | (with_reducible refine ccA ?_ _) | (with_reducible refine ccN ?_ _) | (with_reducible refine ccD ?_))); (case side2 => exact HC273_3.out); (case side3 => repeat (first | exact (ccB HR273_4.out HB.out) | (with_reducible refine ccA ?_ _) | (with_reducible refine ccN ?_ _) | (with_reducible refine ccD ?_))); (case side4 => exact HC273_4.out); rintro e w60 ⟨rfl, hb⟩; refine ⟨_, rfl, ?_⟩; replace BK268 := aaM (bX hb BK268.out); replace BK272 := aaM (bX hb BK272.out); replace BK274 := aaM (bX hb BK274.out); replace HB := aaM (lP (by repeat (first | (with_reducible first | exact HB.out | apply lA | apply lN | apply lD | refine lS ?_ GE268.out | refine lS ?_ GE272.out | refine lS ?_ GE274.out) | exact HB.out)) hb); (try clear hb); (try clear hb2); (try clear hk); (try clear hi)) | ((with_reducible refine gate_dst (N := 14) rfl ?_); refine box_event ?hg (N := 14) ?hd (cs := #[.int .u64 0, .int .u64 0, .int .u64 0]) (t := 32) ?hr ?_; (case hd => rfl); (case hg => rfl); (case hr => first | (go_simp; done) | (go_simp; rfl)); intro gb279 hg w61 hbox hb; have hP_ := lQ (by repeat (first | (with_reducible first | exact HB.out | apply lA | apply lN | apply lD | refine lS ?_ GE268.out | refine lS ?_ GE272.out | refine lS ?_ GE274.out) | exact HB.out)) hb; replace HB := aaM hP_.1; have BK279 := aaM (hbox); have GW279 := aaM (gQ hg hP_.2); have GE279 := aaM (gQ hg hP_.2); have NB268_279 := aaM (nL hg BK268.out); have NB279_268 := aaM (nL hg BK268.out).symm; replace BK268 := aaM (bX hb BK268.out); have NB272_279 := aaM (nL hg BK272.out); have NB279_272 := aaM (nL hg BK272.out).symm; replace BK272 := aaM (bX hb BK272.out); have NB274_279 := aaM (nL hg BK274.out); have NB279_274 := aaM (nL hg BK274.out).symm; replace BK274 := aaM (bX hb BK274.out); clear hP_ hb hbox hg; have hnb62 := NB279_268.out; have hnc62 := NB268_279.out; have hnb63 := NB279_272.out; have hnc63 := NB272_279.out; have hnb64 := NB279_274.out; have hnc64 := NB274_279.out; obtain ⟨hcz65_0, hcz65_1, hcz65_2, hfz65_0, hfz65_1, hfz65_2⟩ := bE3 BK279.out; have hnb66 := NB272_268.out; have hnc66 := NB268_272.out; obtain ⟨hcz67_0, hcz67_1, hcz67_2, hcz67_3, hcz67_4, hcz67_5, hfz67_0, hfz67_1, hfz67_2, hfz67_3, hfz67_4, hfz67_5⟩ := bE6 BK272.out) | (go_at_call 21; (with_reducible refine (frac_Cmp.calls k3 t275 t276 t277 x273003_3 x273004_3 x273005_3 t280 _ A34.out).mono ?_); rintro e w68 ⟨rfl, hb⟩; replace BK268 := aaM (bB (g := gb268) (o := .cells #[.bool x269000_1, .int .i64 x269001_1, .int .i64 x269002_1, .int .u64 x269003_1, .int .u64 x269004_1, .int .u64 x269005_1] 40 (0, 0)) (by (with_reducible repeat (first | refine bN ?_ _ | refine bD ?_ | refine bA ?_ _)); refine blk_far ?_ NB268_279.out _; (with_reducible repeat (first | refine bN ?_ _ | refine bD ?_ | refine bA ?_ _)); refine blk_far ?_ NB268_279.out _; (with_reducible repeat (first | refine bN ?_ _ | refine bD ?_ | refine bA ?_ _)); refine blk_far ?_ NB268_279.out _; (with_reducible repeat (first | refine bN ?_ _ | refine bD ?_ | refine bA ?_ _)); exact BK268.out) hb); replace BK272 := aaM (bB (g := gb272) (o := .cells #[.bool true, .int .i64 x273001_3, .int .i64 x273002_3, .int .u64 x273003_3, .int .u64 x273004_3, .int .u64 x273005_3] 40 (0, 0)) (by (with_reducible repeat (first | refine bN ?_ _ | refine bD ?_ | refine bA ?_ _)); refine blk_far ?_ NB272_279.out _; (with_reducible repeat (first | refine bN ?_ _ | refine bD ?_ | refine bA ?_ _)); refine blk_far ?_ NB272_279.out _; (with_reducible repeat (first | refine bN ?_ _ | refine bD ?_ | refine bA ?_ _)); refine blk_far ?_ NB272_279.out _; (with_reducible repeat (first | refine bN ?_ _ | refine bD ?_ | refine bA ?_ _)); exact BK272.out) hb); replace BK274 := aaM (bB (g := gb274) (o := .cells #[.int .i64 ((rd_T25 l1 x38_2).f0), .int .i64 ((rd_T25 l1 x38_2).f1), .int .i64 ((rd_T25 l1 x38_2).f2), .slice A273_3 ((rd_T25 l1 x38_2).f3).length c273_3, .slice A273_4 ((rd_T25 l1 x38_2).f4).length c273_4] 25 (0, 0)) (by (with_reducible repeat (first | refine bN ?_ _ | refine bD ?_ | refine bA ?_ _)); refine blk_far ?_ NB274_279.out _; (with_reducible repeat (first | refine bN ?_ _ | refine bD ?_ | refine bA ?_ _)); refine blk_far ?_ NB274_279.out _; (with_reducible repeat (first | refine bN ?_ _ | refine bD ?_ | refine bA ?_ _)); refine blk_far ?_ NB274_279.out _; (with_reducible repeat (first | refine bN ?_ _ | refine bD ?_ | refine bA ?_ _)); exact BK274.out) hb); replace BK279 := aaM (bB (g := gb279) (o := .cells #[.int .u64 t275, .int .u64 t276, .int .u64 t277] 32 (0, 0)) (by (with_reducible repeat (first | refine bN ?_ _ | refine bD ?_ | refine bA ?_ _)); refine blk_put (cs := #[.int .u64 t275, .int .u64 t276, .int .u64 0]) ?_ 2 _ rfl; (with_reducible repeat (first | refine bN ?_ _ | refine bD ?_ | refine bA ?_ _)); refine blk_put (cs := #[.int .u64 t275, .int .u64 0, .int .u64 0]) ?_ 1 _ rfl; (with_reducible repeat (first | refine bN ?_ _ | refine bD ?_ | refine bA ?_ _)); refine blk_put (cs := #[.int .u64 0, .int .u64 0, .int .u64 0]) ?_ 0 _ rfl; (with_reducible repeat (first | refine bN ?_ _ | refine bD ?_ | refine bA ?_ _)); exact BK279.out) hb); replace HB := aaM (lP (by repeat (first | (with_reducible first | exact HB.out | apply lA | apply lN | apply lD | refine lS ?_ GE268.out | refine lS ?_ GE272.out | refine lS ?_ GE274.out | refine lS ?_ GE279.out) | exact HB.out)) hb); (try clear hb); (try clear hb2); (try clear hk); (try clear hi)))
                 go_roundg k3
                 case measure => have := HK1.out; have := HK2.out; have := HK3.out; omega
                 case rel => exact ⟨(wrap64 (x46_3 + 1)), (true), (x273001_3), (x273002_3), (x273003_3), (x273004_3), (x273005_3), (by first | rfl | (simp; done) | (simp [*]; done)), H', ⟨by have := HK1.out; have := HK2.out; have := HK3.out; omega⟩, ⟨by (with_reducible repeat (first | refine bN ?_ _ | refine bD ?_ | refine bA ?_ _)); exact BK268.out⟩, ⟨by (with_reducible repeat (first | refine bN ?_ _ | refine bD ?_ | refine bA ?_ _)); exact BK272.out⟩, ⟨by (with_reducible repeat (first | refine bN ?_ _ | refine bD ?_ | refine bA ?_ _)); exact BK274.out⟩, ⟨by repeat (first | (with_reducible first | exact HB.out | apply lA | apply lN | apply lD | refine lS ?_ GE268.out | refine lS ?_ GE272.out | refine lS ?_ GE274.out | refine lS ?_ GE279.out) | exact HB.out)⟩⟩
               ·replace c33 := Bool.eq_false_iff.mpr c33
                subst c33
                have H1 : (if 0 ≤ x38_2 then (if x38_2 < (l0.length : Int) then (split_Best.l2 k3 l0 a2 x38_2 l1 (l1.length : Int) x38_2 (wrap64 (((rd_T25 l1 x38_2).f1) - 1)) (wrap64 (x46_3 + 1)) true (rd l0 x38_2) x46_3 t275 t276 t277 ((rd_T25 l1 x38_2).f0) ((rd_T25 l1 x38_2).f1) ((rd_T25 l1 x38_2).f2) ((rd_T25 l1 x38_2).f3) ((rd_T25 l1 x38_2).f4)) else (none)) else (none)) = some (r1, r2, r3, r4, r5, r6, r7) := by rw [if_neg (show ¬ (false = true) by decide)] at H; exact H
                clear H
                have H := H1
                clear H1
                by_cases c69 : 0 ≤ x38_2
                ·rw [if_pos c69] at H
                 have c69b0 : decide (0 ≤ x38_2) = true := decide_eq_true c69
                 clear c69
                 by_cases c70 : x38_2 < (l0.length : Int)
                 ·rw [if_pos c70] at H
                  have c70b0 : decide (x38_2 < (l0.length : Int)) = true := decide_eq_true c70
                  clear c70
                  have H' := aaM H
                  clear H
                  have hnb71 := NB274_268.out
                  have hnc71 := NB268_274.out
                  have hnb72 := NB274_272.out
                  have hnc72 := NB272_274.out
                  obtain ⟨hcz73_0, hcz73_1, hcz73_2, hcz73_3, hcz73_4, hfz73_0, hfz73_1, hfz73_2, hfz73_3, hfz73_4⟩ := bE5 BK274.out
                  try go_wp2_with (first | ((with_reducible refine gate_callee (f := 10) rfl ?_); refine goesL_ (some 53) rfl rfl Try.func10 (by kernel_rfl) rfl #[.agg #[.int .i64 ((rd_T25 l1 x38_2).f0), .int .i64 ((rd_T25 l1 x38_2).f1), .int .i64 ((rd_T25 l1 x38_2).f2), .slice A273_3 ((rd_T25 l1 x38_2).f3).length c273_3, .slice A273_4 ((rd_T25 l1 x38_2).f4).length c273_4], .int .i64 x46_3, .int .i64 a2] rfl (by (try simp only [mmT, mmC, mmN]); first | done | rfl | (simp only [ddD, ddT]; rfl)) ?_; (with_reducible refine (split_Cut.calls k3 ((rd_T25 l1 x38_2).f0) ((rd_T25 l1 x38_2).f1) ((rd_T25 l1 x38_2).f2) _ _ ((rd_T25 l1 x38_2).f3) _ _ ((rd_T25 l1 x38_2).f4) x46_3 a2 t275 t276 t277 true _ ?side1 ?side2 ?side3 ?side4 A31.out).mono ?_); (case side1 => repeat (first | exact (ccB HR273_3.out HB.out) | (with_reducible refine ccA ?_ _) | (with_reducible refine ccN ?_ _) | (with_reducible refine ccD ?_))); (case side2 => exact HC273_3.out); (case side3 => repeat (first | exact (ccB HR273_4.out HB.out) | (with_reducible refine ccA ?_ _) | (with_reducible refine ccN ?_ _) | (with_reducible refine ccD ?_))); (case side4 => exact HC273_4.out); rintro e w74 ⟨rfl, hb⟩; refine ⟨_, rfl, ?_⟩; replace BK268 := aaM (bX hb BK268.out); replace BK272 := aaM (bX hb BK272.out); replace BK274 := aaM (bX hb BK274.out); replace HB := aaM (lP (by repeat (first | (with_reducible first | exact HB.out | apply lA | apply lN | apply lD | refine lS ?_ GE268.out | refine lS ?_ GE272.out | refine lS ?_ GE274.out) | exact HB.out)) hb); (try clear hb); (try clear hb2); (try clear hk); (try clear hi)) | ((with_reducible refine gate_dst (N := 14) rfl ?_); refine box_event ?hg (N := 14) ?hd (cs := #[.int .u64 0, .int .u64 0, .int .u64 0]) (t := 32) ?hr ?_; (case hd => rfl); (case hg => rfl); (case hr => first | (go_simp; done) | (go_simp; rfl)); intro gb279 hg w75 hbox hb; have hP_ := lQ (by repeat (first | (with_reducible first | exact HB.out | apply lA | apply lN | apply lD | refine lS ?_ GE268.out | refine lS ?_ GE272.out | refine lS ?_ GE274.out) | exact HB.out)) hb; replace HB := aaM hP_.1; have BK279 := aaM (hbox); have GW279 := aaM (gQ hg hP_.2); have GE279 := aaM (gQ hg hP_.2); have NB268_279 := aaM (nL hg BK268.out); have NB279_268 := aaM (nL hg BK268.out).symm; replace BK268 := aaM (bX hb BK268.out); have NB272_279 := aaM (nL hg BK272.out); have NB279_272 := aaM (nL hg BK272.out).symm; replace BK272 := aaM (bX hb BK272.out); have NB274_279 := aaM (nL hg BK274.out); have NB279_274 := aaM (nL hg BK274.out).symm; replace BK274 := aaM (bX hb BK274.out); clear hP_ hb hbox hg; have hnb76 := NB279_268.out; have hnc76 := NB268_279.out; have hnb77 := NB279_272.out; have hnc77 := NB272_279.out; have hnb78 := NB279_274.out; have hnc78 := NB274_279.out; obtain ⟨hcz79_0, hcz79_1, hcz79_2, hfz79_0, hfz79_1, hfz79_2⟩ := bE3 BK279.out; have hnb80 := NB272_268.out; have hnc80 := NB268_272.out; obtain ⟨hcz81_0, hcz81_1, hcz81_2, hcz81_3, hcz81_4, hcz81_5, hfz81_0, hfz81_1, hfz81_2, hfz81_3, hfz81_4, hfz81_5⟩ := bE6 BK272.out))
                  have n0_ : Aside0 ((((w75.setCell ⟨gb279, 0, none⟩ (.int .u64 t275)).setCell ⟨gb279, 1, none⟩ (.int .u64 t276)).setCell ⟨gb279, 2, none⟩ (.int .u64 t277)).heap[gb268]? = some (.cells #[.bool x269000_1, .int .i64 x269001_1, .int .i64 x269002_1, .int .u64 x269003_1, .int .u64 x269004_1, .int .u64 x269005_1] 40 (0, 0))) := ⟨by (with_reducible repeat (first | refine bN ?_ _ | refine bD ?_ | refine bA ?_ _)); refine blk_far ?_ NB268_279.out _; (with_reducible repeat (first | refine bN ?_ _ | refine bD ?_ | refine bA ?_ _)); refine blk_far ?_ NB268_279.out _; (with_reducible repeat (first | refine bN ?_ _ | refine bD ?_ | refine bA ?_ _)); refine blk_far ?_ NB268_279.out _; (with_reducible repeat (first | refine bN ?_ _ | refine bD ?_ | refine bA ?_ _)); exact BK268.out⟩
                  have n1_ : Aside0 ((((w75.setCell ⟨gb279, 0, none⟩ (.int .u64 t275)).setCell ⟨gb279, 1, none⟩ (.int .u64 t276)).setCell ⟨gb279, 2, none⟩ (.int .u64 t277)).heap[gb272]? = some (.cells #[.bool false, .int .i64 x273001_3, .int .i64 x273002_3, .int .u64 x273003_3, .int .u64 x273004_3, .int .u64 x273005_3] 40 (0, 0))) := ⟨by (with_reducible repeat (first | refine bN ?_ _ | refine bD ?_ | refine bA ?_ _)); refine blk_far ?_ NB272_279.out _; (with_reducible repeat (first | refine bN ?_ _ | refine bD ?_ | refine bA ?_ _)); refine blk_far ?_ NB272_279.out _; (with_reducible repeat (first | refine bN ?_ _ | refine bD ?_ | refine bA ?_ _)); refine blk_far ?_ NB272_279.out _; (with_reducible repeat (first | refine bN ?_ _ | refine bD ?_ | refine bA ?_ _)); exact BK272.out⟩
                  have n2_ : Aside0 ((((w75.setCell ⟨gb279, 0, none⟩ (.int .u64 t275)).setCell ⟨gb279, 1, none⟩ (.int .u64 t276)).setCell ⟨gb279, 2, none⟩ (.int .u64 t277)).heap[gb274]? = some (.cells #[.int .i64 ((rd_T25 l1 x38_2).f0), .int .i64 ((rd_T25 l1 x38_2).f1), .int .i64 ((rd_T25 l1 x38_2).f2), .slice A273_3 ((rd_T25 l1 x38_2).f3).length c273_3, .slice A273_4 ((rd_T25 l1 x38_2).f4).length c273_4] 25 (0, 0))) := ⟨by (with_reducible repeat (first | refine bN ?_ _ | refine bD ?_ | refine bA ?_ _)); refine blk_far ?_ NB274_279.out _; (with_reducible repeat (first | refine bN ?_ _ | refine bD ?_ | refine bA ?_ _)); refine blk_far ?_ NB274_279.out _; (with_reducible repeat (first | refine bN ?_ _ | refine bD ?_ | refine bA ?_ _)); refine blk_far ?_ NB274_279.out _; (with_reducible repeat (first | refine bN ?_ _ | refine bD ?_ | refine bA ?_ _)); exact BK274.out⟩
                  have n3_ : Aside0 ((((w75.setCell ⟨gb279, 0, none⟩ (.int .u64 t275)).setCell ⟨gb279, 1, none⟩ (.int .u64 t276)).setCell ⟨gb279, 2, none⟩ (.int .u64 t277)).heap[gb279]? = some (.cells #[.int .u64 t275, .int .u64 t276, .int .u64 t277] 32 (0, 0))) := ⟨by (with_reducible repeat (first | refine bN ?_ _ | refine bD ?_ | refine bA ?_ _)); refine blk_put (cs := #[.int .u64 t275, .int .u64 t276, .int .u64 0]) ?_ 2 _ rfl; (with_reducible repeat (first | refine bN ?_ _ | refine bD ?_ | refine bA ?_ _)); refine blk_put (cs := #[.int .u64 t275, .int .u64 0, .int .u64 0]) ?_ 1 _ rfl; (with_reducible repeat (first | refine bN ?_ _ | refine bD ?_ | refine bA ?_ _)); refine blk_put (cs := #[.int .u64 0, .int .u64 0, .int .u64 0]) ?_ 0 _ rfl; (with_reducible repeat (first | refine bN ?_ _ | refine bD ?_ | refine bA ?_ _)); exact BK279.out⟩
                  have n4_ : Aside0 (Below w.heap.size w (((w75.setCell ⟨gb279, 0, none⟩ (.int .u64 t275)).setCell ⟨gb279, 1, none⟩ (.int .u64 t276)).setCell ⟨gb279, 2, none⟩ (.int .u64 t277))) := ⟨by repeat (first | (with_reducible first | exact HB.out | apply lA | apply lN | apply lD | refine lS ?_ GE268.out | refine lS ?_ GE272.out | refine lS ?_ GE274.out | refine lS ?_ GE279.out) | exact HB.out)⟩
                  (try clear BK268)
                  (try clear BK272)
                  (try clear BK274)
                  (try clear BK279)
                  (try clear HB)
                  generalize (((w75.setCell ⟨gb279, 0, none⟩ (.int .u64 t275)).setCell ⟨gb279, 1, none⟩ (.int .u64 t276)).setCell ⟨gb279, 2, none⟩ (.int .u64 t277)) = w82 at n0_ n1_ n2_ n3_ n4_ ⊢
                  have BK268 := n0_
                  have BK272 := n1_
                  have BK274 := n2_
                  have BK279 := n3_
                  have HB := n4_
                  clear n0_ n1_ n2_ n3_ n4_
                  replace BK268 := aaM (bD BK268.out)
                  replace BK272 := aaM (bD BK272.out)
                  replace BK274 := aaM (bD BK274.out)
                  replace BK279 := aaM (bD BK279.out)
                  replace HB := aaM (lD HB.out)
                  have p282 : 0 ≤ (x38_2 : Int) := of_decide_eq_true (by first | (with_reducible assumption) | assumption)
                  have q282 : x38_2 < (l0.length : Int) := of_decide_eq_true (by first | (with_reducible assumption) | assumption)
                  obtain ⟨ad282, e282, hx282_0⟩ := Kd.at_int HR0.out x38_2 p282 q282
                  have hw282_0 := hx282_0
                  cases e282
                  replace hx282_0 := (HB.out.cell (World.block_lt_of_cell? w _ hx282_0)).trans hx282_0
                  replace p282 := eq_true p282
                  replace q282 := eq_true q282
                  refine start_ (n := 8) (S := fun w' => w'.cell? ⟨gb279, 0, none⟩ = some (.int .u64 t275) ∧ w'.cell? ⟨gb279, 1, none⟩ = some (.int .u64 t276) ∧ w'.cell? ⟨gb279, 2, none⟩ = some (.int .u64 t277) ∧ w'.cell? (ad282.add (x38_2).toNat) = some (.int .i64 (rd l0 x38_2))) (ds := []) #[false, false, false, false, false, false, false, false] (by kernel_rfl) rfl rfl ⟨(bC BK279.out 0).trans rfl, (bC BK279.out 1).trans rfl, (bC BK279.out 2).trans rfl, ((HB.out.cell (World.block_lt_of_cell? w _ hw282_0)).trans hw282_0)⟩ (fun hHeld => ?_); refine with_tabW split_Best.tab20 split_Best.bits20 (fun HT_ HW_ => ?_)
                  generalize w82.drew = w83 at BK268 BK272 BK274 BK279 HB hx282_0 hHeld ⊢
                  refine pure_ (i := 0) (N := some 69) (v := ?_) (a' := ?_) #[true, false, false, false, false, false, false, false] rfl rfl (any_of HT_.out (by kernel_rfl)) (fun _ _ _ h => h) (Or.inl ⟨by rfl, ?_⟩) ?_ ?_
                  rotate_left
                  ·intro w'
                   go_simp
                   with_reducible rfl
                  rotate_left
                  ·simp only [Act.put, ssB, ssZ, ssS, i64_w, i32_w]
                   rfl
                  refine pure_ (i := 1) (N := some 70) (v := ?_) (a' := ?_) #[true, true, false, false, false, false, false, false] rfl rfl (any_of HT_.out (by kernel_rfl)) (fun _ _ _ h => h) (Or.inl ⟨by rfl, ?_⟩) ?_ ?_
                  rotate_left
                  ·intro w'
                   go_simp
                   with_reducible rfl
                  rotate_left
                  ·simp only [Act.put, ssB, ssZ, ssS, i64_w, i32_w]
                   rfl
                  refine pure_ (i := 2) (N := some 71) (v := ?_) (a' := ?_) #[true, true, true, false, false, false, false, false] rfl rfl (any_of HT_.out (by kernel_rfl)) (fun _ _ _ h => h) (Or.inl ⟨by rfl, ?_⟩) ?_ ?_
                  rotate_left
                  ·intro w'
                   go_simp
                   with_reducible rfl
                  rotate_left
                  ·simp only [Act.put, ssB, ssZ, ssS, i64_w, i32_w]
                   rfl
                  refine pure_ (i := 4) (N := some 73) (v := ?_) (a' := ?_) #[true, true, true, false, true, false, false, false] rfl rfl (any_of HT_.out (by kernel_rfl)) (fun _ _ _ h => h) (Or.inl ⟨by rfl, ?_⟩) ?_ ?_
                  rotate_left
                  ·intro w'
                   go_simp
                   with_reducible rfl
                  rotate_left
                  ·simp only [Act.put, ssB, ssZ, ssS, i64_w, i32_w]
                   rfl
                  refine take_ (i := 3) (N := some 72) (v := ?_) (a' := ?_) #[true, true, true, true, true, false, false, false] rfl rfl (take_ofW HT_.out HW_.out (by kernel_rfl)) (fun _ _ _ h => h) (Or.inl ⟨by rfl, ?_⟩) hHeld ?_ ?_
                  rotate_left
                  ·rintro w' ⟨s0, s1, s2, s3⟩
                   go_simp
                   with_reducible rfl
                  rotate_left
                  ·simp only [Act.put, ssB, ssZ, ssS, i64_w, i32_w]
                   rfl
                  refine take_ (i := 5) (N := some 74) (v := ?_) (a' := ?_) #[true, true, true, true, true, true, false, false] rfl rfl (take_ofW HT_.out HW_.out (by kernel_rfl)) (fun _ _ _ h => h) (Or.inl ⟨by rfl, ?_⟩) hHeld ?_ ?_
                  rotate_left
                  ·rintro w' ⟨s0, s1, s2, s3⟩
                   go_simp
                   with_reducible rfl
                  rotate_left
                  ·simp only [Act.put, ssB, ssZ, ssS, i64_w, i32_w]
                   rfl
                  refine pure_ (i := 6) (N := some 75) (v := ?_) (a' := ?_) #[true, true, true, true, true, true, true, false] rfl rfl (any_of HT_.out (by kernel_rfl)) (fun _ _ _ h => h) (Or.inl ⟨by rfl, ?_⟩) ?_ ?_
                  rotate_left
                  ·intro w'
                   go_simp
                   with_reducible rfl
                  rotate_left
                  ·simp only [Act.put, ssB, ssZ, ssS, i64_w, i32_w]
                   rfl
                  refine one_ (i := 7) (N := none) #[true, true, true, true, true, true, true, true] rfl rfl (one_of HT_.out (by kernel_rfl)) (by decide) (fun K hK => ?_)
                  obtain ⟨hs84, -, -, -, -, -, hfs84, -, -, -, -, -⟩ := bE6 BK272.out
                  have hns84_0 := NB268_272.out
                  have hns84_2 := NB274_272.out
                  have hns84_3 := NB279_272.out
                  have hms84_0 := NB272_268.out
                  have hms84_2 := NB272_274.out
                  have hms84_3 := NB272_279.out
                  obtain ⟨-, hs85, -, -, -, -, -, hfs85, -, -, -, -⟩ := bE6 BK272.out
                  have hns85_0 := NB268_272.out
                  have hns85_2 := NB274_272.out
                  have hns85_3 := NB279_272.out
                  have hms85_0 := NB272_268.out
                  have hms85_2 := NB272_274.out
                  have hms85_3 := NB272_279.out
                  obtain ⟨-, -, hs86, -, -, -, -, -, hfs86, -, -, -⟩ := bE6 BK272.out
                  have hns86_0 := NB268_272.out
                  have hns86_2 := NB274_272.out
                  have hns86_3 := NB279_272.out
                  have hms86_0 := NB272_268.out
                  have hms86_2 := NB272_274.out
                  have hms86_3 := NB272_279.out
                  obtain ⟨-, -, -, hs87, -, -, -, -, -, hfs87, -, -⟩ := bE6 BK272.out
                  have hns87_0 := NB268_272.out
                  have hns87_2 := NB274_272.out
                  have hns87_3 := NB279_272.out
                  have hms87_0 := NB272_268.out
                  have hms87_2 := NB272_274.out
                  have hms87_3 := NB272_279.out
                  obtain ⟨-, -, -, -, hs88, -, -, -, -, -, hfs88, -⟩ := bE6 BK272.out
                  have hns88_0 := NB268_272.out
                  have hns88_2 := NB274_272.out
                  have hns88_3 := NB279_272.out
                  have hms88_0 := NB272_268.out
                  have hms88_2 := NB272_274.out
                  have hms88_3 := NB272_279.out
                  obtain ⟨-, -, -, -, -, hs89, -, -, -, -, -, hfs89⟩ := bE6 BK272.out
                  have hns89_0 := NB268_272.out
                  have hns89_2 := NB274_272.out
                  have hns89_3 := NB279_272.out
                  have hms89_0 := NB272_268.out
                  have hms89_2 := NB272_274.out
                  have hms89_3 := NB272_279.out
                  refine skip_ (w1 := ?_) (by rfl) rfl ?_ ?_
                  rotate_left
                  ·go_simp
                   rfl
                  refine hK.out _ _ ⟨((cell_far (p := ⟨gb272, _, none⟩) NB279_272.out _).trans (((cell_far (p := ⟨gb272, _, none⟩) NB279_272.out _).trans (((cell_far (p := ⟨gb272, _, none⟩) NB279_272.out _).trans (((cell_far (p := ⟨gb272, _, none⟩) NB279_272.out _).trans (((cell_far (p := ⟨gb272, _, none⟩) NB279_272.out _).trans (((cell_far (p := ⟨gb272, _, none⟩) NB279_272.out _).trans (hHeld.1)))))))))))), ((cell_far (p := ⟨gb272, _, none⟩) NB279_272.out _).trans (((cell_far (p := ⟨gb272, _, none⟩) NB279_272.out _).trans (((cell_far (p := ⟨gb272, _, none⟩) NB279_272.out _).trans (((cell_far (p := ⟨gb272, _, none⟩) NB279_272.out _).trans (((cell_far (p := ⟨gb272, _, none⟩) NB279_272.out _).trans (((cell_far (p := ⟨gb272, _, none⟩) NB279_272.out _).trans (hHeld.2.1)))))))))))), ((cell_far (p := ⟨gb272, _, none⟩) NB279_272.out _).trans (((cell_far (p := ⟨gb272, _, none⟩) NB279_272.out _).trans (((cell_far (p := ⟨gb272, _, none⟩) NB279_272.out _).trans (((cell_far (p := ⟨gb272, _, none⟩) NB279_272.out _).trans (((cell_far (p := ⟨gb272, _, none⟩) NB279_272.out _).trans (((cell_far (p := ⟨gb272, _, none⟩) NB279_272.out _).trans (hHeld.2.2.1)))))))))))), ((cell_far (p := ⟨gb272, _, none⟩) (by first | exact Nat.ne_of_lt (Nat.lt_of_lt_of_le (by have := World.block_lt_of_cell? _ _ hw282_0; first | rwa [add_block] at this | exact this) GW272.out) | (rw [add_block]; exact Nat.ne_of_lt (Nat.lt_of_lt_of_le (by have := World.block_lt_of_cell? _ _ hw282_0; first | rwa [add_block] at this | exact this) GW272.out)) | (show (Addr.add _ _).block ≠ _; rw [add_block]; exact Nat.ne_of_lt (Nat.lt_of_lt_of_le (by have := World.block_lt_of_cell? _ _ hw282_0; first | rwa [add_block] at this | exact this) GW272.out)) | (dsimp only; exact Nat.ne_of_lt (Nat.lt_of_lt_of_le (by have := World.block_lt_of_cell? _ _ hw282_0; first | rwa [add_block] at this | exact this) GW272.out))) _).trans (((cell_far (p := ⟨gb272, _, none⟩) (by first | exact Nat.ne_of_lt (Nat.lt_of_lt_of_le (by have := World.block_lt_of_cell? _ _ hw282_0; first | rwa [add_block] at this | exact this) GW272.out) | (rw [add_block]; exact Nat.ne_of_lt (Nat.lt_of_lt_of_le (by have := World.block_lt_of_cell? _ _ hw282_0; first | rwa [add_block] at this | exact this) GW272.out)) | (show (Addr.add _ _).block ≠ _; rw [add_block]; exact Nat.ne_of_lt (Nat.lt_of_lt_of_le (by have := World.block_lt_of_cell? _ _ hw282_0; first | rwa [add_block] at this | exact this) GW272.out)) | (dsimp only; exact Nat.ne_of_lt (Nat.lt_of_lt_of_le (by have := World.block_lt_of_cell? _ _ hw282_0; first | rwa [add_block] at this | exact this) GW272.out))) _).trans (((cell_far (p := ⟨gb272, _, none⟩) (by first | exact Nat.ne_of_lt (Nat.lt_of_lt_of_le (by have := World.block_lt_of_cell? _ _ hw282_0; first | rwa [add_block] at this | exact this) GW272.out) | (rw [add_block]; exact Nat.ne_of_lt (Nat.lt_of_lt_of_le (by have := World.block_lt_of_cell? _ _ hw282_0; first | rwa [add_block] at this | exact this) GW272.out)) | (show (Addr.add _ _).block ≠ _; rw [add_block]; exact Nat.ne_of_lt (Nat.lt_of_lt_of_le (by have := World.block_lt_of_cell? _ _ hw282_0; first | rwa [add_block] at this | exact this) GW272.out)) | (dsimp only; exact Nat.ne_of_lt (Nat.lt_of_lt_of_le (by have := World.block_lt_of_cell? _ _ hw282_0; first | rwa [add_block] at this | exact this) GW272.out))) _).trans (((cell_far (p := ⟨gb272, _, none⟩) (by first | exact Nat.ne_of_lt (Nat.lt_of_lt_of_le (by have := World.block_lt_of_cell? _ _ hw282_0; first | rwa [add_block] at this | exact this) GW272.out) | (rw [add_block]; exact Nat.ne_of_lt (Nat.lt_of_lt_of_le (by have := World.block_lt_of_cell? _ _ hw282_0; first | rwa [add_block] at this | exact this) GW272.out)) | (show (Addr.add _ _).block ≠ _; rw [add_block]; exact Nat.ne_of_lt (Nat.lt_of_lt_of_le (by have := World.block_lt_of_cell? _ _ hw282_0; first | rwa [add_block] at this | exact this) GW272.out)) | (dsimp only; exact Nat.ne_of_lt (Nat.lt_of_lt_of_le (by have := World.block_lt_of_cell? _ _ hw282_0; first | rwa [add_block] at this | exact this) GW272.out))) _).trans (((cell_far (p := ⟨gb272, _, none⟩) (by first | exact Nat.ne_of_lt (Nat.lt_of_lt_of_le (by have := World.block_lt_of_cell? _ _ hw282_0; first | rwa [add_block] at this | exact this) GW272.out) | (rw [add_block]; exact Nat.ne_of_lt (Nat.lt_of_lt_of_le (by have := World.block_lt_of_cell? _ _ hw282_0; first | rwa [add_block] at this | exact this) GW272.out)) | (show (Addr.add _ _).block ≠ _; rw [add_block]; exact Nat.ne_of_lt (Nat.lt_of_lt_of_le (by have := World.block_lt_of_cell? _ _ hw282_0; first | rwa [add_block] at this | exact this) GW272.out)) | (dsimp only; exact Nat.ne_of_lt (Nat.lt_of_lt_of_le (by have := World.block_lt_of_cell? _ _ hw282_0; first | rwa [add_block] at this | exact this) GW272.out))) _).trans (((cell_far (p := ⟨gb272, _, none⟩) (by first | exact Nat.ne_of_lt (Nat.lt_of_lt_of_le (by have := World.block_lt_of_cell? _ _ hw282_0; first | rwa [add_block] at this | exact this) GW272.out) | (rw [add_block]; exact Nat.ne_of_lt (Nat.lt_of_lt_of_le (by have := World.block_lt_of_cell? _ _ hw282_0; first | rwa [add_block] at this | exact this) GW272.out)) | (show (Addr.add _ _).block ≠ _; rw [add_block]; exact Nat.ne_of_lt (Nat.lt_of_lt_of_le (by have := World.block_lt_of_cell? _ _ hw282_0; first | rwa [add_block] at this | exact this) GW272.out)) | (dsimp only; exact Nat.ne_of_lt (Nat.lt_of_lt_of_le (by have := World.block_lt_of_cell? _ _ hw282_0; first | rwa [add_block] at this | exact this) GW272.out))) _).trans (hHeld.2.2.2))))))))))))⟩ (fun hHeld => ?_)
                  clear hK K
                  refine done_ (done_of HT_.out (by kernel_rfl)) ?_
                  try go_wp2
                  go_roundg k3
                  case measure => have := HK1.out; have := HK2.out; have := HK3.out; omega
                  case rel => exact ⟨(wrap64 (x46_3 + 1)), (true), (rd l0 x38_2), (x46_3), (t275), (t276), (t277), (by first | rfl | (simp; done) | (simp [*]; done)), H', ⟨by have := HK1.out; have := HK2.out; have := HK3.out; omega⟩, ⟨by (with_reducible repeat (first | refine bN ?_ _ | refine bD ?_ | refine bA ?_ _)); refine blk_far ?_ NB268_272.out _; (with_reducible repeat (first | refine bN ?_ _ | refine bD ?_ | refine bA ?_ _)); refine blk_far ?_ NB268_272.out _; (with_reducible repeat (first | refine bN ?_ _ | refine bD ?_ | refine bA ?_ _)); refine blk_far ?_ NB268_272.out _; (with_reducible repeat (first | refine bN ?_ _ | refine bD ?_ | refine bA ?_ _)); refine blk_far ?_ NB268_272.out _; (with_reducible repeat (first | refine bN ?_ _ | refine bD ?_ | refine bA ?_ _)); refine blk_far ?_ NB268_272.out _; (with_reducible repeat (first | refine bN ?_ _ | refine bD ?_ | refine bA ?_ _)); refine blk_far ?_ NB268_272.out _; (with_reducible repeat (first | refine bN ?_ _ | refine bD ?_ | refine bA ?_ _)); exact BK268.out⟩, ⟨by (with_reducible repeat (first | refine bN ?_ _ | refine bD ?_ | refine bA ?_ _)); refine blk_put (cs := #[.bool true, .int .i64 (rd l0 x38_2), .int .i64 x46_3, .int .u64 t275, .int .u64 t276, .int .u64 x273005_3]) ?_ 5 _ rfl; (with_reducible repeat (first | refine bN ?_ _ | refine bD ?_ | refine bA ?_ _)); refine blk_put (cs := #[.bool true, .int .i64 (rd l0 x38_2), .int .i64 x46_3, .int .u64 t275, .int .u64 x273004_3, .int .u64 x273005_3]) ?_ 4 _ rfl; (with_reducible repeat (first | refine bN ?_ _ | refine bD ?_ | refine bA ?_ _)); refine blk_put (cs := #[.bool true, .int .i64 (rd l0 x38_2), .int .i64 x46_3, .int .u64 x273003_3, .int .u64 x273004_3, .int .u64 x273005_3]) ?_ 3 _ rfl; (with_reducible repeat (first | refine bN ?_ _ | refine bD ?_ | refine bA ?_ _)); refine blk_put (cs := #[.bool true, .int .i64 (rd l0 x38_2), .int .i64 x273002_3, .int .u64 x273003_3, .int .u64 x273004_3, .int .u64 x273005_3]) ?_ 2 _ rfl; (with_reducible repeat (first | refine bN ?_ _ | refine bD ?_ | refine bA ?_ _)); refine blk_put (cs := #[.bool true, .int .i64 x273001_3, .int .i64 x273002_3, .int .u64 x273003_3, .int .u64 x273004_3, .int .u64 x273005_3]) ?_ 1 _ rfl; (with_reducible repeat (first | refine bN ?_ _ | refine bD ?_ | refine bA ?_ _)); refine blk_put (cs := #[.bool false, .int .i64 x273001_3, .int .i64 x273002_3, .int .u64 x273003_3, .int .u64 x273004_3, .int .u64 x273005_3]) ?_ 0 _ rfl; (with_reducible repeat (first | refine bN ?_ _ | refine bD ?_ | refine bA ?_ _)); exact BK272.out⟩, ⟨by (with_reducible repeat (first | refine bN ?_ _ | refine bD ?_ | refine bA ?_ _)); refine blk_far ?_ NB274_272.out _; (with_reducible repeat (first | refine bN ?_ _ | refine bD ?_ | refine bA ?_ _)); refine blk_far ?_ NB274_272.out _; (with_reducible repeat (first | refine bN ?_ _ | refine bD ?_ | refine bA ?_ _)); refine blk_far ?_ NB274_272.out _; (with_reducible repeat (first | refine bN ?_ _ | refine bD ?_ | refine bA ?_ _)); refine blk_far ?_ NB274_272.out _; (with_reducible repeat (first | refine bN ?_ _ | refine bD ?_ | refine bA ?_ _)); refine blk_far ?_ NB274_272.out _; (with_reducible repeat (first | refine bN ?_ _ | refine bD ?_ | refine bA ?_ _)); refine blk_far ?_ NB274_272.out _; (with_reducible repeat (first | refine bN ?_ _ | refine bD ?_ | refine bA ?_ _)); exact BK274.out⟩, ⟨by repeat (first | (with_reducible first | exact HB.out | apply lA | apply lN | apply lD | refine lS ?_ GE268.out | refine lS ?_ GE272.out | refine lS ?_ GE274.out | refine lS ?_ GE279.out) | exact HB.out)⟩⟩
                 ·rw [if_neg c70] at H
                  exact absurd H (by simp)
                ·rw [if_neg c69] at H
                 exact absurd H (by simp)
              ·replace c32 := Bool.eq_false_iff.mpr c32
               subst c32
               have H1 : (split_Best.l2 k3 l0 a2 x38_2 l1 (l1.length : Int) x38_2 (wrap64 (((rd_T25 l1 x38_2).f1) - 1)) (wrap64 (x46_3 + 1)) x273000_3 x273001_3 x273002_3 x273003_3 x273004_3 x273005_3 ((rd_T25 l1 x38_2).f0) ((rd_T25 l1 x38_2).f1) ((rd_T25 l1 x38_2).f2) ((rd_T25 l1 x38_2).f3) ((rd_T25 l1 x38_2).f4)) = some (r1, r2, r3, r4, r5, r6, r7) := by rw [if_neg (show ¬ (false = true) by decide)] at H; exact H
               clear H
               have H := H1
               clear H1
               have H' := aaM H
               clear H
               have hnb90 := NB274_268.out
               have hnc90 := NB268_274.out
               have hnb91 := NB274_272.out
               have hnc91 := NB272_274.out
               obtain ⟨hcz92_0, hcz92_1, hcz92_2, hcz92_3, hcz92_4, hfz92_0, hfz92_1, hfz92_2, hfz92_3, hfz92_4⟩ := bE5 BK274.out
               go_wp2_with (first | ((with_reducible refine gate_callee (f := 10) rfl ?_); refine goesL_ (some 53) rfl rfl Try.func10 (by kernel_rfl) rfl #[.agg #[.int .i64 ((rd_T25 l1 x38_2).f0), .int .i64 ((rd_T25 l1 x38_2).f1), .int .i64 ((rd_T25 l1 x38_2).f2), .slice A273_3 ((rd_T25 l1 x38_2).f3).length c273_3, .slice A273_4 ((rd_T25 l1 x38_2).f4).length c273_4], .int .i64 x46_3, .int .i64 a2] rfl (by (try simp only [mmT, mmC, mmN]); first | done | rfl | (simp only [ddD, ddT]; rfl)) ?_; (with_reducible refine (split_Cut.calls k3 ((rd_T25 l1 x38_2).f0) ((rd_T25 l1 x38_2).f1) ((rd_T25 l1 x38_2).f2) _ _ ((rd_T25 l1 x38_2).f3) _ _ ((rd_T25 l1 x38_2).f4) x46_3 a2 t275 t276 t277 false _ ?side1 ?side2 ?side3 ?side4 A31.out).mono ?_); (case side1 => repeat (first | exact (ccB HR273_3.out HB.out) | (with_reducible refine ccA ?_ _) | (with_reducible refine ccN ?_ _) | (with_reducible refine ccD ?_))); (case side2 => exact HC273_3.out); (case side3 => repeat (first | exact (ccB HR273_4.out HB.out) | (with_reducible refine ccA ?_ _) | (with_reducible refine ccN ?_ _) | (with_reducible refine ccD ?_))); (case side4 => exact HC273_4.out); rintro e w93 ⟨rfl, hb⟩; refine ⟨_, rfl, ?_⟩; replace BK268 := aaM (bX hb BK268.out); replace BK272 := aaM (bX hb BK272.out); replace BK274 := aaM (bX hb BK274.out); replace HB := aaM (lP (by repeat (first | (with_reducible first | exact HB.out | apply lA | apply lN | apply lD | refine lS ?_ GE268.out | refine lS ?_ GE272.out | refine lS ?_ GE274.out) | exact HB.out)) hb); (try clear hb); (try clear hb2); (try clear hk); (try clear hi)) | ((with_reducible refine gate_dst (N := 14) rfl ?_); refine box_event ?hg (N := 14) ?hd (cs := #[.int .u64 0, .int .u64 0, .int .u64 0]) (t := 32) ?hr ?_; (case hd => rfl); (case hg => rfl); (case hr => first | (go_simp; done) | (go_simp; rfl)); intro gb279 hg w94 hbox hb; have hP_ := lQ (by repeat (first | (with_reducible first | exact HB.out | apply lA | apply lN | apply lD | refine lS ?_ GE268.out | refine lS ?_ GE272.out | refine lS ?_ GE274.out) | exact HB.out)) hb; replace HB := aaM hP_.1; have BK279 := aaM (hbox); have GW279 := aaM (gQ hg hP_.2); have GE279 := aaM (gQ hg hP_.2); have NB268_279 := aaM (nL hg BK268.out); have NB279_268 := aaM (nL hg BK268.out).symm; replace BK268 := aaM (bX hb BK268.out); have NB272_279 := aaM (nL hg BK272.out); have NB279_272 := aaM (nL hg BK272.out).symm; replace BK272 := aaM (bX hb BK272.out); have NB274_279 := aaM (nL hg BK274.out); have NB279_274 := aaM (nL hg BK274.out).symm; replace BK274 := aaM (bX hb BK274.out); clear hP_ hb hbox hg; have hnb95 := NB279_268.out; have hnc95 := NB268_279.out; have hnb96 := NB279_272.out; have hnc96 := NB272_279.out; have hnb97 := NB279_274.out; have hnc97 := NB274_279.out; obtain ⟨hcz98_0, hcz98_1, hcz98_2, hfz98_0, hfz98_1, hfz98_2⟩ := bE3 BK279.out))
               go_roundg k3
               case measure => have := HK1.out; have := HK2.out; have := HK3.out; omega
               case rel => exact ⟨(wrap64 (x46_3 + 1)), (x273000_3), (x273001_3), (x273002_3), (x273003_3), (x273004_3), (x273005_3), (by first | rfl | (simp; done) | (simp [*]; done)), H', ⟨by have := HK1.out; have := HK2.out; have := HK3.out; omega⟩, ⟨by (with_reducible repeat (first | refine bN ?_ _ | refine bD ?_ | refine bA ?_ _)); refine blk_far ?_ NB268_279.out _; (with_reducible repeat (first | refine bN ?_ _ | refine bD ?_ | refine bA ?_ _)); refine blk_far ?_ NB268_279.out _; (with_reducible repeat (first | refine bN ?_ _ | refine bD ?_ | refine bA ?_ _)); refine blk_far ?_ NB268_279.out _; (with_reducible repeat (first | refine bN ?_ _ | refine bD ?_ | refine bA ?_ _)); exact BK268.out⟩, ⟨by (with_reducible repeat (first | refine bN ?_ _ | refine bD ?_ | refine bA ?_ _)); refine blk_far ?_ NB272_279.out _; (with_reducible repeat (first | refine bN ?_ _ | refine bD ?_ | refine bA ?_ _)); refine blk_far ?_ NB272_279.out _; (with_reducible repeat (first | refine bN ?_ _ | refine bD ?_ | refine bA ?_ _)); refine blk_far ?_ NB272_279.out _; (with_reducible repeat (first | refine bN ?_ _ | refine bD ?_ | refine bA ?_ _)); exact BK272.out⟩, ⟨by (with_reducible repeat (first | refine bN ?_ _ | refine bD ?_ | refine bA ?_ _)); refine blk_far ?_ NB274_279.out _; (with_reducible repeat (first | refine bN ?_ _ | refine bD ?_ | refine bA ?_ _)); refine blk_far ?_ NB274_279.out _; (with_reducible repeat (first | refine bN ?_ _ | refine bD ?_ | refine bA ?_ _)); refine blk_far ?_ NB274_279.out _; (with_reducible repeat (first | refine bN ?_ _ | refine bD ?_ | refine bA ?_ _)); exact BK274.out⟩, ⟨by repeat (first | (with_reducible first | exact HB.out | apply lA | apply lN | apply lD | refine lS ?_ GE268.out | refine lS ?_ GE272.out | refine lS ?_ GE274.out | refine lS ?_ GE279.out) | exact HB.out)⟩⟩
             ·rw [if_neg c30] at H
              have c30b0 : decide (x46_3 < (wrap64 (((rd_T25 l1 x38_2).f1) - 1))) = false := decide_eq_false c30
              clear c30
              have H' := aaM H
              clear H
              go_wp2
              go_roundg k3
              case measure => have := HK1.out; have := HK2.out; have := HK3.out; omega
              case rel => exact ⟨(wrap64 (x38_2 + 1)), (x273000_3), (x273001_3), (x273002_3), (x273003_3), (x273004_3), (x273005_3), (by first | rfl | (simp; done) | (simp [*]; done)), H', ⟨by have := HK1.out; have := HK2.out; have := HK3.out; omega⟩, ⟨by (with_reducible repeat (first | refine bN ?_ _ | refine bD ?_ | refine bA ?_ _)); exact BK268.out⟩, ⟨by (with_reducible repeat (first | refine bN ?_ _ | refine bD ?_ | refine bA ?_ _)); exact BK272.out⟩, ⟨by repeat (first | (with_reducible first | exact HB.out | apply lA | apply lN | apply lD | refine lS ?_ GE268.out | refine lS ?_ GE272.out | refine lS ?_ GE274.out) | exact HB.out)⟩⟩
          ·rw [if_neg c25] at H
           exact absurd H (by simp)
         ·rw [if_neg c24] at H
          exact absurd H (by simp)
        ·rw [if_neg c23] at H
         have c23b0 : decide (x38_2 < (l1.length : Int)) = false := decide_eq_false c23
         clear c23
         simp only [Option.some.injEq, Prod.mk.injEq] at H
         obtain ⟨rfl, rfl, rfl, rfl, rfl, rfl, rfl⟩ := H
         have hnb99 := NB272_268.out
         have hnc99 := NB268_272.out
         obtain ⟨hcz100_0, hcz100_1, hcz100_2, hcz100_3, hcz100_4, hcz100_5, hfz100_0, hfz100_1, hfz100_2, hfz100_3, hfz100_4, hfz100_5⟩ := bE6 BK272.out
         obtain ⟨hcz101_0, hcz101_1, hcz101_2, hcz101_3, hcz101_4, hcz101_5, hfz101_0, hfz101_1, hfz101_2, hfz101_3, hfz101_4, hfz101_5⟩ := bE6 BK268.out
         go_wp2
         refine bodyPost_ret (results_ct rfl _ _ gb268 40 #[.bool x273000_2, .int .i64 x273001_2, .int .i64 x273002_2, .int .u64 x273003_2, .int .u64 x273004_2, .int .u64 x273005_2] (0, 0) _ rfl (by (with_reducible repeat (first | refine bN ?_ _ | refine bD ?_ | refine bA ?_ _)); refine blk_put (cs := #[.bool x273000_2, .int .i64 x273001_2, .int .i64 x273002_2, .int .u64 x273003_2, .int .u64 x273004_2, .int .u64 x269005_1]) ?_ 5 _ rfl; (with_reducible repeat (first | refine bN ?_ _ | refine bD ?_ | refine bA ?_ _)); refine blk_put (cs := #[.bool x273000_2, .int .i64 x273001_2, .int .i64 x273002_2, .int .u64 x273003_2, .int .u64 x269004_1, .int .u64 x269005_1]) ?_ 4 _ rfl; (with_reducible repeat (first | refine bN ?_ _ | refine bD ?_ | refine bA ?_ _)); refine blk_put (cs := #[.bool x273000_2, .int .i64 x273001_2, .int .i64 x273002_2, .int .u64 x269003_1, .int .u64 x269004_1, .int .u64 x269005_1]) ?_ 3 _ rfl; (with_reducible repeat (first | refine bN ?_ _ | refine bD ?_ | refine bA ?_ _)); refine blk_put (cs := #[.bool x273000_2, .int .i64 x273001_2, .int .i64 x269002_1, .int .u64 x269003_1, .int .u64 x269004_1, .int .u64 x269005_1]) ?_ 2 _ rfl; (with_reducible repeat (first | refine bN ?_ _ | refine bD ?_ | refine bA ?_ _)); refine blk_put (cs := #[.bool x273000_2, .int .i64 x269001_1, .int .i64 x269002_1, .int .u64 x269003_1, .int .u64 x269004_1, .int .u64 x269005_1]) ?_ 1 _ rfl; (with_reducible repeat (first | refine bN ?_ _ | refine bD ?_ | refine bA ?_ _)); refine blk_put (cs := #[.bool x269000_1, .int .i64 x269001_1, .int .i64 x269002_1, .int .u64 x269003_1, .int .u64 x269004_1, .int .u64 x269005_1]) ?_ 0 _ rfl; (with_reducible repeat (first | refine bN ?_ _ | refine bD ?_ | refine bA ?_ _)); exact BK268.out) Try.underlying40 rfl (by kernel_rfl)) rfl ?_
         exact ⟨by first | rfl | (simp [errW_none, errW_some] <;> rfl) | (simp [*, errW_none, errW_some] <;> rfl), by repeat (first | (with_reducible first | exact HB.out | apply lA | apply lN | apply lD | refine lS ?_ GE268.out | refine lS ?_ GE272.out) | exact HB.out)⟩
 ·rw [if_neg c4] at H
  have c4b0 : ((l0.length : Int) == (l1.length : Int)) = false := beq_eq_false_iff_ne.mpr c4
  have c4b1 : ((l0.length : Int) != (l1.length : Int)) = true := bne_iff_ne.mpr c4
  have c4b2 : (l0.length == l1.length) = false := by first | simpa using c4 | (simp at c4 ⊢; omega)
  simp only [Option.some.injEq, Prod.mk.injEq] at H
  obtain ⟨rfl, rfl, rfl, rfl, rfl, rfl, rfl⟩ := H
  go_enter Try.func13, Try.ntmps13
  go_wp2_with (first | ((with_reducible refine gate_dst (N := 6) rfl ?_); refine box_event ?hg (N := 6) ?hd (cs := #[.bool false, .int .i64 0, .int .i64 0, .int .u64 0, .int .u64 0, .int .u64 0]) (t := 40) ?hr ?_; (case hd => rfl); (case hg => rfl); (case hr => first | (go_simp; done) | (go_simp; rfl)); intro gb268 hg w102 hbox hb; have hP_ := lQ (by repeat (first | (with_reducible first | exact HB.out | apply lA | apply lN | apply lD) | exact HB.out)) hb; replace HB := aaM hP_.1; have BK268 := aaM (hbox); have GW268 := aaM (gQ hg hP_.2); have GE268 := aaM (gQ hg hP_.2); clear hP_ hb hbox hg; obtain ⟨hcz103_0, hcz103_1, hcz103_2, hcz103_3, hcz103_4, hcz103_5, hfz103_0, hfz103_1, hfz103_2, hfz103_3, hfz103_4, hfz103_5⟩ := bE6 BK268.out))
  refine bodyPost_ret (results_ct rfl _ _ gb268 40 #[.bool false, .int .i64 0, .int .i64 0, .int .u64 0, .int .u64 0, .int .u64 0] (0, 0) _ rfl (by (with_reducible repeat (first | refine bN ?_ _ | refine bD ?_ | refine bA ?_ _)); refine blk_put (cs := #[.bool false, .int .i64 0, .int .i64 0, .int .u64 0, .int .u64 0, .int .u64 0]) ?_ 5 _ rfl; (with_reducible repeat (first | refine bN ?_ _ | refine bD ?_ | refine bA ?_ _)); refine blk_put (cs := #[.bool false, .int .i64 0, .int .i64 0, .int .u64 0, .int .u64 0, .int .u64 0]) ?_ 4 _ rfl; (with_reducible repeat (first | refine bN ?_ _ | refine bD ?_ | refine bA ?_ _)); refine blk_put (cs := #[.bool false, .int .i64 0, .int .i64 0, .int .u64 0, .int .u64 0, .int .u64 0]) ?_ 3 _ rfl; (with_reducible repeat (first | refine bN ?_ _ | refine bD ?_ | refine bA ?_ _)); refine blk_put (cs := #[.bool false, .int .i64 0, .int .i64 0, .int .u64 0, .int .u64 0, .int .u64 0]) ?_ 2 _ rfl; (with_reducible repeat (first | refine bN ?_ _ | refine bD ?_ | refine bA ?_ _)); refine blk_put (cs := #[.bool false, .int .i64 0, .int .i64 0, .int .u64 0, .int .u64 0, .int .u64 0]) ?_ 1 _ rfl; (with_reducible repeat (first | refine bN ?_ _ | refine bD ?_ | refine bA ?_ _)); refine blk_put (cs := #[.bool false, .int .i64 0, .int .i64 0, .int .u64 0, .int .u64 0, .int .u64 0]) ?_ 0 _ rfl; (with_reducible repeat (first | refine bN ?_ _ | refine bD ?_ | refine bA ?_ _)); exact BK268.out) Try.underlying40 rfl (by kernel_rfl)) rfl ?_
  exact ⟨by first | rfl | (simp [errW_none, errW_some] <;> rfl) | (simp [*, errW_none, errW_some] <;> rfl), by repeat (first | (with_reducible first | exact HB.out | apply lA | apply lN | apply lD | refine lS ?_ GE268.out) | exact HB.out)⟩

end Go.Proofs.Ytancajnbjmcamaa.QSplitLeaf
