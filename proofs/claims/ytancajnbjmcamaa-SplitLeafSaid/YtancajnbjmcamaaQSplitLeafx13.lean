-- Written by a program of this session (wip/tools/mkprint.py over the kit's print); Lean checks it.
import Derived.Test.YtancajnbjmcamaaQSplitLeafx0
import Derived.Test.YtancajnbjmcamaaQSplitLeafx6
import Derived.Test.YtancajnbjmcamaaQSplitLeafx8
import Derived.Test.YtancajnbjmcamaaQSplitLeafx9
import Derived.Test.YtancajnbjmcamaaQSplitLeafx11
import Derived.Test.YtancajnbjmcamaaQSplitLeafx12
namespace Go.Proofs.Ytancajnbjmcamaa.QSplitLeaf
open Go.RowKit Go.Proofs.YtancajnbjmcamaaW.PrintWords Go.Proofs.YtancajnbjmcamaaW.PrintLast Go.Proofs.YtancajnbjmcamaaW.PrintMore
attribute [local go_sem] max2_int min2_int max_two min_two max_three min_three max_four min_four   -- for this text's walks alone
set_option linter.unusedVariables false
set_option linter.unusedSimpArgs false

/-! ### a part of split_Cut -/
def split_CutM.f (k : Nat) (a0_0 : Int) (a0_1 : Int) (a0_2 : Int) (l0_3 : List Int) (l0_4 : List (S54)) (a1 : Int) (a2 : Int) : Option (Int × Int × Int × Bool) := (hist_Right.f a0_0 a0_1 a0_2 l0_3 l0_4).bind fun t276 => (if t276 = true then (if a1 < 0 then (some (0, 0, 0, false)) else (if a1 ≥ (wrap64 (a0_1 - 1)) then (some (0, 0, 0, false)) else (if a2 < 1 then (some (0, 0, 0, false)) else ((split_binsM.f k a0_0 a0_1 a0_2 l0_3 l0_4 0 a0_1).bind fun bt277 => ((split_binsM.f k a0_0 a0_1 a0_2 l0_3 l0_4 0 (wrap64 (a1 + 1))).bind fun bt281 => ((split_binsM.f k a0_0 a0_1 a0_2 l0_3 l0_4 (wrap64 (a1 + 1)) a0_1).bind fun bt285 => (if bt277.2.2.2 = true then (if bt281.2.2.2 = true then (if bt285.2.2.2 = true then ((split_means_size.f k bt281.1 bt281.2.1 bt281.2.2.1).bind fun t289 => (if t289 < a2 then (some (0, 0, 0, false)) else ((split_means_size.f k bt285.1 bt285.2.1 bt285.2.2.1).bind fun t290 => (if t290 < a2 then (some (0, 0, 0, false)) else ((split_means_score.f k bt281.1 bt281.2.1 bt281.2.2.1 bt285.1 bt285.2.1 bt285.2.2.1).bind fun bt291 => ((frac_Right.f bt291.1 bt291.2.1 bt291.2.2).bind fun t295 => (if t295 = true then ((split_means_alone.f k bt277.1 bt277.2.1 bt277.2.2.1).bind fun bt296 => ((frac_Cmp.f k bt291.1 bt291.2.1 bt291.2.2 bt296.1 bt296.2.1 bt296.2.2).bind fun t299 => (if t299 ≤ 0 then (some (0, 0, 0, false)) else (some (bt291.1, bt291.2.1, bt291.2.2, true))))) else (some (0, 0, 0, false))))))))) else (some (0, 0, 0, false))) else (some (0, 0, 0, false))) else (some (0, 0, 0, false))))))))) else (some (0, 0, 0, false)))
theorem split_CutM.mono : ∀ a0 a1 a2 a3 a4 a5 a6 k, LeO (split_CutM.f k a0 a1 a2 a3 a4 a5 a6) (split_CutM.f (k + 1) a0 a1 a2 a3 a4 a5 a6) := by
 intro a0 a1 a2 a3 a4 a5 a6 k
 unfold split_CutM.f
 repeat' first
   | (with_reducible exact frac_Cmp.mono _ _ _ _ _ _ _)
   | (with_reducible exact split_binsM.mono _ _ _ _ _ _ _ _)
   | (with_reducible exact split_means_alone.mono _ _ _ _)
   | (with_reducible exact split_means_score.mono _ _ _ _ _ _ _)
   | (with_reducible exact split_means_size.mono _ _ _ _)
   | (with_reducible exact LeO.refl _)
   | (with_reducible exact LeO.none _)
   | (with_reducible refine LeO.ite ?_ ?_)
   | (with_reducible refine LeO.bind ?_ (fun _ => ?_))
   | exact frac_Cmp.mono _ _ _ _ _ _ _
   | exact split_binsM.mono _ _ _ _ _ _ _ _
   | exact split_means_alone.mono _ _ _ _
   | exact split_means_score.mono _ _ _ _ _ _ _
   | exact split_means_size.mono _ _ _ _
   | exact LeO.none _
   | refine LeO.ite ?_ ?_
   | refine LeO.bind ?_ (fun _ => ?_)
def split_CutM.T9 : Bool × List (List Nat × List Nat) := (true, [([], []), ([0], [0]), ([1], [1]), ([2, 1], [2]), ([3], [3]), ([3], [3]), ([5, 3, 3], [3, 5]), ([4, 6, 6, 3], [3, 4, 6]), ([7, 3], [3, 7]), ([3, 8], [3, 8])])
def split_CutM.B9 : List Nat := [0, 1, 3, 7, 15, 15, 47, 127, 255, 511]
theorem split_CutM.tab9 : rtab .any (opsOf Try.f10 9) = split_CutM.T9 := by kernel_rfl
theorem split_CutM.bits9 : waitsOk split_CutM.T9.2 split_CutM.B9 = true := by kernel_rfl
theorem split_CutM.mscore (v : Value) (w : World) : (method (Try.prog.types.size + Made.depth) 83 v "hornbeam/split.score").run Try.prog w = .ok (92, v) w := by kernel_rfl
theorem split_CutM.malone (v : Value) (w : World) : (method (Try.prog.types.size + Made.depth) 83 v "hornbeam/split.alone").run Try.prog w = .ok (91, v) w := by kernel_rfl
set_option maxHeartbeats 8000000 in
set_option maxRecDepth 100000 in
theorem split_CutM.calls (k : Nat) (a0_0 : Int) (a0_1 : Int) (a0_2 : Int) (A0_3 : Option Addr) (c0_3 : Nat) (l0_3 : List Int) (A0_4 : Option Addr) (c0_4 : Nat) (l0_4 : List (S54)) (a1 : Int) (a2 : Int) (r1 : Int) (r2 : Int) (r3 : Int) (r4 : Bool) (w : World) (hr0_3 : Kd.C (Kd.int .i64) w A0_3 l0_3.length l0_3) (hc0_3 : l0_3.length ≤ c0_3) (hr0_4 : Kd.C k54 w A0_4 l0_4.length l0_4) (hc0_4 : l0_4.length ≤ c0_4) (hk_ : ¬ a0_0 = 0) (h : split_CutM.f k a0_0 a0_1 a0_2 l0_3 l0_4 a1 a2 = some (r1, r2, r3, r4)) :
  Calls Try.prog 10 #[.agg #[.int .i64 a0_0, .int .i64 a0_1, .int .i64 a0_2, .slice A0_3 l0_3.length c0_3, .slice A0_4 l0_4.length c0_4], .int .i64 a1, .int .i64 a2] w fun e w' => e = .returned (.tuple #[.agg #[.int .u64 r1, .int .u64 r2, .int .u64 r3], .bool r4]) ∧ Below w.heap.size w w' := by
 have hu25 := Try.underlying25
 have hu32 := Try.underlying32
 have HR0_3 := aaM hr0_3
 have HC0_3 := aaM hc0_3
 clear hr0_3 hc0_3
 have HR0_4 := aaM hr0_4
 have HC0_4 := aaM hc0_4
 clear hr0_4 hc0_4
 have HB := aaM (Below.refl w.heap.size w)
 have HKI := aaM hk_
 clear hk_
 have H : ((hist_Right.f a0_0 a0_1 a0_2 l0_3 l0_4).bind fun t276 => (if t276 = true then (if a1 < 0 then (some (0, 0, 0, false)) else (if a1 ≥ (wrap64 (a0_1 - 1)) then (some (0, 0, 0, false)) else (if a2 < 1 then (some (0, 0, 0, false)) else ((split_binsM.f k a0_0 a0_1 a0_2 l0_3 l0_4 0 a0_1).bind fun bt277 => ((split_binsM.f k a0_0 a0_1 a0_2 l0_3 l0_4 0 (wrap64 (a1 + 1))).bind fun bt281 => ((split_binsM.f k a0_0 a0_1 a0_2 l0_3 l0_4 (wrap64 (a1 + 1)) a0_1).bind fun bt285 => (if bt277.2.2.2 = true then (if bt281.2.2.2 = true then (if bt285.2.2.2 = true then ((split_means_size.f k bt281.1 bt281.2.1 bt281.2.2.1).bind fun t289 => (if t289 < a2 then (some (0, 0, 0, false)) else ((split_means_size.f k bt285.1 bt285.2.1 bt285.2.2.1).bind fun t290 => (if t290 < a2 then (some (0, 0, 0, false)) else ((split_means_score.f k bt281.1 bt281.2.1 bt281.2.2.1 bt285.1 bt285.2.1 bt285.2.2.1).bind fun bt291 => ((frac_Right.f bt291.1 bt291.2.1 bt291.2.2).bind fun t295 => (if t295 = true then ((split_means_alone.f k bt277.1 bt277.2.1 bt277.2.2.1).bind fun bt296 => ((frac_Cmp.f k bt291.1 bt291.2.1 bt291.2.2 bt296.1 bt296.2.1 bt296.2.2).bind fun t299 => (if t299 ≤ 0 then (some (0, 0, 0, false)) else (some (bt291.1, bt291.2.1, bt291.2.2, true))))) else (some (0, 0, 0, false))))))))) else (some (0, 0, 0, false))) else (some (0, 0, 0, false))) else (some (0, 0, 0, false))))))))) else (some (0, 0, 0, false)))) = some (r1, r2, r3, r4) := h
 clear h
 replace H := ooB.mp H
 obtain ⟨t276, A40, H⟩ := H
 replace H : (if t276 = true then (if a1 < 0 then (some (0, 0, 0, false)) else (if a1 ≥ (wrap64 (a0_1 - 1)) then (some (0, 0, 0, false)) else (if a2 < 1 then (some (0, 0, 0, false)) else ((split_binsM.f k a0_0 a0_1 a0_2 l0_3 l0_4 0 a0_1).bind fun bt277 => ((split_binsM.f k a0_0 a0_1 a0_2 l0_3 l0_4 0 (wrap64 (a1 + 1))).bind fun bt281 => ((split_binsM.f k a0_0 a0_1 a0_2 l0_3 l0_4 (wrap64 (a1 + 1)) a0_1).bind fun bt285 => (if bt277.2.2.2 = true then (if bt281.2.2.2 = true then (if bt285.2.2.2 = true then ((split_means_size.f k bt281.1 bt281.2.1 bt281.2.2.1).bind fun t289 => (if t289 < a2 then (some (0, 0, 0, false)) else ((split_means_size.f k bt285.1 bt285.2.1 bt285.2.2.1).bind fun t290 => (if t290 < a2 then (some (0, 0, 0, false)) else ((split_means_score.f k bt281.1 bt281.2.1 bt281.2.2.1 bt285.1 bt285.2.1 bt285.2.2.1).bind fun bt291 => ((frac_Right.f bt291.1 bt291.2.1 bt291.2.2).bind fun t295 => (if t295 = true then ((split_means_alone.f k bt277.1 bt277.2.1 bt277.2.2.1).bind fun bt296 => ((frac_Cmp.f k bt291.1 bt291.2.1 bt291.2.2 bt296.1 bt296.2.1 bt296.2.2).bind fun t299 => (if t299 ≤ 0 then (some (0, 0, 0, false)) else (some (bt291.1, bt291.2.1, bt291.2.2, true))))) else (some (0, 0, 0, false))))))))) else (some (0, 0, 0, false))) else (some (0, 0, 0, false))) else (some (0, 0, 0, false))))))))) else (some (0, 0, 0, false))) = some (r1, r2, r3, r4) := H
 have A4 := aaM A40
 clear A40
 by_cases c5 : t276 = true
 ·subst c5
  have H1 : (if a1 < 0 then (some (0, 0, 0, false)) else (if a1 ≥ (wrap64 (a0_1 - 1)) then (some (0, 0, 0, false)) else (if a2 < 1 then (some (0, 0, 0, false)) else ((split_binsM.f k a0_0 a0_1 a0_2 l0_3 l0_4 0 a0_1).bind fun bt277 => ((split_binsM.f k a0_0 a0_1 a0_2 l0_3 l0_4 0 (wrap64 (a1 + 1))).bind fun bt281 => ((split_binsM.f k a0_0 a0_1 a0_2 l0_3 l0_4 (wrap64 (a1 + 1)) a0_1).bind fun bt285 => (if bt277.2.2.2 = true then (if bt281.2.2.2 = true then (if bt285.2.2.2 = true then ((split_means_size.f k bt281.1 bt281.2.1 bt281.2.2.1).bind fun t289 => (if t289 < a2 then (some (0, 0, 0, false)) else ((split_means_size.f k bt285.1 bt285.2.1 bt285.2.2.1).bind fun t290 => (if t290 < a2 then (some (0, 0, 0, false)) else ((split_means_score.f k bt281.1 bt281.2.1 bt281.2.2.1 bt285.1 bt285.2.1 bt285.2.2.1).bind fun bt291 => ((frac_Right.f bt291.1 bt291.2.1 bt291.2.2).bind fun t295 => (if t295 = true then ((split_means_alone.f k bt277.1 bt277.2.1 bt277.2.2.1).bind fun bt296 => ((frac_Cmp.f k bt291.1 bt291.2.1 bt291.2.2 bt296.1 bt296.2.1 bt296.2.2).bind fun t299 => (if t299 ≤ 0 then (some (0, 0, 0, false)) else (some (bt291.1, bt291.2.1, bt291.2.2, true))))) else (some (0, 0, 0, false))))))))) else (some (0, 0, 0, false))) else (some (0, 0, 0, false))) else (some (0, 0, 0, false))))))))) = some (r1, r2, r3, r4) := by rw [if_pos rfl] at H; exact H
  clear H
  have H := H1
  clear H1
  by_cases c6 : a1 < 0
  ·rw [if_pos c6] at H
   have c6b0 : decide (a1 < 0) = true := decide_eq_true c6
   clear c6
   simp only [Option.some.injEq, Prod.mk.injEq] at H
   obtain ⟨rfl, rfl, rfl, rfl⟩ := H
   go_enter Try.func10, Try.ntmps10
   go_wp2_with (first | ((with_reducible refine gate_dst (N := 3) rfl ?_); refine box_event ?hg (N := 3) ?hd (cs := #[.int .i64 a0_0, .int .i64 a0_1, .int .i64 a0_2, .slice A0_3 l0_3.length c0_3, .slice A0_4 l0_4.length c0_4]) (t := 25) ?hr ?_; (case hd => rfl); (case hg => rfl); (case hr => first | (go_simp; done) | (go_simp; rfl)); intro gb274 hg w7 hbox hb; have hP_ := lQ (by repeat (first | (with_reducible first | exact HB.out | apply lA | apply lN | apply lD) | exact HB.out)) hb; replace HB := aaM hP_.1; have BK274 := aaM (hbox); have GW274 := aaM (gQ hg hP_.2); have GE274 := aaM (gQ hg hP_.2); clear hP_ hb hbox hg) | ((with_reducible refine gate_dst (N := 6) rfl ?_); refine box_event ?hg (N := 6) ?hd (cs := #[.int .u64 0, .int .u64 0, .int .u64 0]) (t := 32) ?hr ?_; (case hd => rfl); (case hg => rfl); (case hr => first | (go_simp; done) | (go_simp; rfl)); intro gb275 hg w8 hbox hb; have hP_ := lQ (by repeat (first | (with_reducible first | exact HB.out | apply lA | apply lN | apply lD | refine lS ?_ GE274.out) | exact HB.out)) hb; replace HB := aaM hP_.1; have BK275 := aaM (hbox); have GW275 := aaM (gQ hg hP_.2); have GE275 := aaM (gQ hg hP_.2); have NB274_275 := aaM (nL hg BK274.out); have NB275_274 := aaM (nL hg BK274.out).symm; replace BK274 := aaM (bX hb BK274.out); clear hP_ hb hbox hg; have hnb9 := NB274_275.out; have hnc9 := NB275_274.out; obtain ⟨hcz10_0, hcz10_1, hcz10_2, hcz10_3, hcz10_4, hfz10_0, hfz10_1, hfz10_2, hfz10_3, hfz10_4⟩ := bE5 BK274.out) | ((with_reducible refine gate_callee (f := 18) rfl ?_); refine goesL_ (some 16) rfl rfl Try.func18 (by kernel_rfl) rfl #[.agg #[.int .i64 a0_0, .int .i64 a0_1, .int .i64 a0_2, .slice A0_3 l0_3.length c0_3, .slice A0_4 l0_4.length c0_4]] rfl (by (try simp only [mmT, mmC, mmN]); first | done | rfl | (simp only [ddD, ddT]; rfl)) ?_; (with_reducible refine (hist_Right.calls a0_0 a0_1 a0_2 _ _ l0_3 _ _ l0_4 true _ ?side1 ?side2 ?side3 ?side4 A4.out).mono ?_); (case side1 => repeat (first | exact (ccB HR0_3.out HB.out) | (with_reducible refine ccA ?_ _) | (with_reducible refine ccN ?_ _) | (with_reducible refine ccD ?_))); (case side2 => exact HC0_3.out); (case side3 => repeat (first | exact (ccB HR0_4.out HB.out) | (with_reducible refine ccA ?_ _) | (with_reducible refine ccN ?_ _) | (with_reducible refine ccD ?_))); (case side4 => exact HC0_4.out); rintro e w11 ⟨rfl, hb⟩; refine ⟨_, rfl, ?_⟩; replace BK274 := aaM (bX hb BK274.out); replace BK275 := aaM (bX hb BK275.out); replace HB := aaM (lP (by repeat (first | (with_reducible first | exact HB.out | apply lA | apply lN | apply lD | refine lS ?_ GE274.out | refine lS ?_ GE275.out) | exact HB.out)) hb); (try clear hb); (try clear hb2); (try clear hk); (try clear hi); obtain ⟨hcz12_0, hcz12_1, hcz12_2, hfz12_0, hfz12_1, hfz12_2⟩ := bE3 BK275.out))
   refine bodyPost_ret (results_ct rfl _ _ gb275 32 #[.int .u64 0, .int .u64 0, .int .u64 0] (0, 0) _ rfl (by (with_reducible repeat (first | refine bN ?_ _ | refine bD ?_ | refine bA ?_ _)); refine blk_put (cs := #[.int .u64 0, .int .u64 0, .int .u64 0]) ?_ 2 _ rfl; (with_reducible repeat (first | refine bN ?_ _ | refine bD ?_ | refine bA ?_ _)); refine blk_put (cs := #[.int .u64 0, .int .u64 0, .int .u64 0]) ?_ 1 _ rfl; (with_reducible repeat (first | refine bN ?_ _ | refine bD ?_ | refine bA ?_ _)); refine blk_put (cs := #[.int .u64 0, .int .u64 0, .int .u64 0]) ?_ 0 _ rfl; (with_reducible repeat (first | refine bN ?_ _ | refine bD ?_ | refine bA ?_ _)); exact BK275.out) Try.underlying32 rfl (by kernel_rfl)) rfl ?_
   exact ⟨by first | rfl | (simp [errW_none, errW_some] <;> rfl) | (simp [*, errW_none, errW_some] <;> rfl), by repeat (first | (with_reducible first | exact HB.out | apply lA | apply lN | apply lD | refine lS ?_ GE274.out | refine lS ?_ GE275.out) | exact HB.out)⟩
  ·rw [if_neg c6] at H
   have c6b0 : decide (a1 < 0) = false := decide_eq_false c6
   clear c6
   by_cases c13 : a1 ≥ (wrap64 (a0_1 - 1))
   ·rw [if_pos c13] at H
    have c13b0 : decide ((wrap64 (a0_1 - 1)) ≤ a1) = true := decide_eq_true c13
    clear c13
    simp only [Option.some.injEq, Prod.mk.injEq] at H
    obtain ⟨rfl, rfl, rfl, rfl⟩ := H
    go_enter Try.func10, Try.ntmps10
    go_wp2_with (first | ((with_reducible refine gate_dst (N := 3) rfl ?_); refine box_event ?hg (N := 3) ?hd (cs := #[.int .i64 a0_0, .int .i64 a0_1, .int .i64 a0_2, .slice A0_3 l0_3.length c0_3, .slice A0_4 l0_4.length c0_4]) (t := 25) ?hr ?_; (case hd => rfl); (case hg => rfl); (case hr => first | (go_simp; done) | (go_simp; rfl)); intro gb274 hg w14 hbox hb; have hP_ := lQ (by repeat (first | (with_reducible first | exact HB.out | apply lA | apply lN | apply lD) | exact HB.out)) hb; replace HB := aaM hP_.1; have BK274 := aaM (hbox); have GW274 := aaM (gQ hg hP_.2); have GE274 := aaM (gQ hg hP_.2); clear hP_ hb hbox hg) | ((with_reducible refine gate_dst (N := 6) rfl ?_); refine box_event ?hg (N := 6) ?hd (cs := #[.int .u64 0, .int .u64 0, .int .u64 0]) (t := 32) ?hr ?_; (case hd => rfl); (case hg => rfl); (case hr => first | (go_simp; done) | (go_simp; rfl)); intro gb275 hg w15 hbox hb; have hP_ := lQ (by repeat (first | (with_reducible first | exact HB.out | apply lA | apply lN | apply lD | refine lS ?_ GE274.out) | exact HB.out)) hb; replace HB := aaM hP_.1; have BK275 := aaM (hbox); have GW275 := aaM (gQ hg hP_.2); have GE275 := aaM (gQ hg hP_.2); have NB274_275 := aaM (nL hg BK274.out); have NB275_274 := aaM (nL hg BK274.out).symm; replace BK274 := aaM (bX hb BK274.out); clear hP_ hb hbox hg; have hnb16 := NB274_275.out; have hnc16 := NB275_274.out; obtain ⟨hcz17_0, hcz17_1, hcz17_2, hcz17_3, hcz17_4, hfz17_0, hfz17_1, hfz17_2, hfz17_3, hfz17_4⟩ := bE5 BK274.out) | ((with_reducible refine gate_callee (f := 18) rfl ?_); refine goesL_ (some 16) rfl rfl Try.func18 (by kernel_rfl) rfl #[.agg #[.int .i64 a0_0, .int .i64 a0_1, .int .i64 a0_2, .slice A0_3 l0_3.length c0_3, .slice A0_4 l0_4.length c0_4]] rfl (by (try simp only [mmT, mmC, mmN]); first | done | rfl | (simp only [ddD, ddT]; rfl)) ?_; (with_reducible refine (hist_Right.calls a0_0 a0_1 a0_2 _ _ l0_3 _ _ l0_4 true _ ?side1 ?side2 ?side3 ?side4 A4.out).mono ?_); (case side1 => repeat (first | exact (ccB HR0_3.out HB.out) | (with_reducible refine ccA ?_ _) | (with_reducible refine ccN ?_ _) | (with_reducible refine ccD ?_))); (case side2 => exact HC0_3.out); (case side3 => repeat (first | exact (ccB HR0_4.out HB.out) | (with_reducible refine ccA ?_ _) | (with_reducible refine ccN ?_ _) | (with_reducible refine ccD ?_))); (case side4 => exact HC0_4.out); rintro e w18 ⟨rfl, hb⟩; refine ⟨_, rfl, ?_⟩; replace BK274 := aaM (bX hb BK274.out); replace BK275 := aaM (bX hb BK275.out); replace HB := aaM (lP (by repeat (first | (with_reducible first | exact HB.out | apply lA | apply lN | apply lD | refine lS ?_ GE274.out | refine lS ?_ GE275.out) | exact HB.out)) hb); (try clear hb); (try clear hb2); (try clear hk); (try clear hi); obtain ⟨hcz19_0, hcz19_1, hcz19_2, hcz19_3, hcz19_4, hfz19_0, hfz19_1, hfz19_2, hfz19_3, hfz19_4⟩ := bE5 BK274.out; obtain ⟨hcz20_0, hcz20_1, hcz20_2, hfz20_0, hfz20_1, hfz20_2⟩ := bE3 BK275.out))
    refine bodyPost_ret (results_ct rfl _ _ gb275 32 #[.int .u64 0, .int .u64 0, .int .u64 0] (0, 0) _ rfl (by (with_reducible repeat (first | refine bN ?_ _ | refine bD ?_ | refine bA ?_ _)); refine blk_put (cs := #[.int .u64 0, .int .u64 0, .int .u64 0]) ?_ 2 _ rfl; (with_reducible repeat (first | refine bN ?_ _ | refine bD ?_ | refine bA ?_ _)); refine blk_put (cs := #[.int .u64 0, .int .u64 0, .int .u64 0]) ?_ 1 _ rfl; (with_reducible repeat (first | refine bN ?_ _ | refine bD ?_ | refine bA ?_ _)); refine blk_put (cs := #[.int .u64 0, .int .u64 0, .int .u64 0]) ?_ 0 _ rfl; (with_reducible repeat (first | refine bN ?_ _ | refine bD ?_ | refine bA ?_ _)); exact BK275.out) Try.underlying32 rfl (by kernel_rfl)) rfl ?_
    exact ⟨by first | rfl | (simp [errW_none, errW_some] <;> rfl) | (simp [*, errW_none, errW_some] <;> rfl), by repeat (first | (with_reducible first | exact HB.out | apply lA | apply lN | apply lD | refine lS ?_ GE274.out | refine lS ?_ GE275.out) | exact HB.out)⟩
   ·rw [if_neg c13] at H
    have c13b0 : decide ((wrap64 (a0_1 - 1)) ≤ a1) = false := decide_eq_false c13
    clear c13
    by_cases c21 : a2 < 1
    ·rw [if_pos c21] at H
     have c21b0 : decide (a2 < 1) = true := decide_eq_true c21
     clear c21
     simp only [Option.some.injEq, Prod.mk.injEq] at H
     obtain ⟨rfl, rfl, rfl, rfl⟩ := H
     go_enter Try.func10, Try.ntmps10
     go_wp2_with (first | ((with_reducible refine gate_dst (N := 3) rfl ?_); refine box_event ?hg (N := 3) ?hd (cs := #[.int .i64 a0_0, .int .i64 a0_1, .int .i64 a0_2, .slice A0_3 l0_3.length c0_3, .slice A0_4 l0_4.length c0_4]) (t := 25) ?hr ?_; (case hd => rfl); (case hg => rfl); (case hr => first | (go_simp; done) | (go_simp; rfl)); intro gb274 hg w22 hbox hb; have hP_ := lQ (by repeat (first | (with_reducible first | exact HB.out | apply lA | apply lN | apply lD) | exact HB.out)) hb; replace HB := aaM hP_.1; have BK274 := aaM (hbox); have GW274 := aaM (gQ hg hP_.2); have GE274 := aaM (gQ hg hP_.2); clear hP_ hb hbox hg) | ((with_reducible refine gate_dst (N := 6) rfl ?_); refine box_event ?hg (N := 6) ?hd (cs := #[.int .u64 0, .int .u64 0, .int .u64 0]) (t := 32) ?hr ?_; (case hd => rfl); (case hg => rfl); (case hr => first | (go_simp; done) | (go_simp; rfl)); intro gb275 hg w23 hbox hb; have hP_ := lQ (by repeat (first | (with_reducible first | exact HB.out | apply lA | apply lN | apply lD | refine lS ?_ GE274.out) | exact HB.out)) hb; replace HB := aaM hP_.1; have BK275 := aaM (hbox); have GW275 := aaM (gQ hg hP_.2); have GE275 := aaM (gQ hg hP_.2); have NB274_275 := aaM (nL hg BK274.out); have NB275_274 := aaM (nL hg BK274.out).symm; replace BK274 := aaM (bX hb BK274.out); clear hP_ hb hbox hg; have hnb24 := NB274_275.out; have hnc24 := NB275_274.out; obtain ⟨hcz25_0, hcz25_1, hcz25_2, hcz25_3, hcz25_4, hfz25_0, hfz25_1, hfz25_2, hfz25_3, hfz25_4⟩ := bE5 BK274.out) | ((with_reducible refine gate_callee (f := 18) rfl ?_); refine goesL_ (some 16) rfl rfl Try.func18 (by kernel_rfl) rfl #[.agg #[.int .i64 a0_0, .int .i64 a0_1, .int .i64 a0_2, .slice A0_3 l0_3.length c0_3, .slice A0_4 l0_4.length c0_4]] rfl (by (try simp only [mmT, mmC, mmN]); first | done | rfl | (simp only [ddD, ddT]; rfl)) ?_; (with_reducible refine (hist_Right.calls a0_0 a0_1 a0_2 _ _ l0_3 _ _ l0_4 true _ ?side1 ?side2 ?side3 ?side4 A4.out).mono ?_); (case side1 => repeat (first | exact (ccB HR0_3.out HB.out) | (with_reducible refine ccA ?_ _) | (with_reducible refine ccN ?_ _) | (with_reducible refine ccD ?_))); (case side2 => exact HC0_3.out); (case side3 => repeat (first | exact (ccB HR0_4.out HB.out) | (with_reducible refine ccA ?_ _) | (with_reducible refine ccN ?_ _) | (with_reducible refine ccD ?_))); (case side4 => exact HC0_4.out); rintro e w26 ⟨rfl, hb⟩; refine ⟨_, rfl, ?_⟩; replace BK274 := aaM (bX hb BK274.out); replace BK275 := aaM (bX hb BK275.out); replace HB := aaM (lP (by repeat (first | (with_reducible first | exact HB.out | apply lA | apply lN | apply lD | refine lS ?_ GE274.out | refine lS ?_ GE275.out) | exact HB.out)) hb); (try clear hb); (try clear hb2); (try clear hk); (try clear hi); obtain ⟨hcz27_0, hcz27_1, hcz27_2, hcz27_3, hcz27_4, hfz27_0, hfz27_1, hfz27_2, hfz27_3, hfz27_4⟩ := bE5 BK274.out; obtain ⟨hcz28_0, hcz28_1, hcz28_2, hfz28_0, hfz28_1, hfz28_2⟩ := bE3 BK275.out))
     refine bodyPost_ret (results_ct rfl _ _ gb275 32 #[.int .u64 0, .int .u64 0, .int .u64 0] (0, 0) _ rfl (by (with_reducible repeat (first | refine bN ?_ _ | refine bD ?_ | refine bA ?_ _)); refine blk_put (cs := #[.int .u64 0, .int .u64 0, .int .u64 0]) ?_ 2 _ rfl; (with_reducible repeat (first | refine bN ?_ _ | refine bD ?_ | refine bA ?_ _)); refine blk_put (cs := #[.int .u64 0, .int .u64 0, .int .u64 0]) ?_ 1 _ rfl; (with_reducible repeat (first | refine bN ?_ _ | refine bD ?_ | refine bA ?_ _)); refine blk_put (cs := #[.int .u64 0, .int .u64 0, .int .u64 0]) ?_ 0 _ rfl; (with_reducible repeat (first | refine bN ?_ _ | refine bD ?_ | refine bA ?_ _)); exact BK275.out) Try.underlying32 rfl (by kernel_rfl)) rfl ?_
     exact ⟨by first | rfl | (simp [errW_none, errW_some] <;> rfl) | (simp [*, errW_none, errW_some] <;> rfl), by repeat (first | (with_reducible first | exact HB.out | apply lA | apply lN | apply lD | refine lS ?_ GE274.out | refine lS ?_ GE275.out) | exact HB.out)⟩
    ·rw [if_neg c21] at H
     have c21b0 : decide (a2 < 1) = false := decide_eq_false c21
     clear c21
     replace H := ooB.mp H
     obtain ⟨⟨t277, t278, t279, t280⟩, A290, H⟩ := H
     replace H : ((split_binsM.f k a0_0 a0_1 a0_2 l0_3 l0_4 0 (wrap64 (a1 + 1))).bind fun bt281 => ((split_binsM.f k a0_0 a0_1 a0_2 l0_3 l0_4 (wrap64 (a1 + 1)) a0_1).bind fun bt285 => (if t280 = true then (if bt281.2.2.2 = true then (if bt285.2.2.2 = true then ((split_means_size.f k bt281.1 bt281.2.1 bt281.2.2.1).bind fun t289 => (if t289 < a2 then (some (0, 0, 0, false)) else ((split_means_size.f k bt285.1 bt285.2.1 bt285.2.2.1).bind fun t290 => (if t290 < a2 then (some (0, 0, 0, false)) else ((split_means_score.f k bt281.1 bt281.2.1 bt281.2.2.1 bt285.1 bt285.2.1 bt285.2.2.1).bind fun bt291 => ((frac_Right.f bt291.1 bt291.2.1 bt291.2.2).bind fun t295 => (if t295 = true then ((split_means_alone.f k t277 t278 t279).bind fun bt296 => ((frac_Cmp.f k bt291.1 bt291.2.1 bt291.2.2 bt296.1 bt296.2.1 bt296.2.2).bind fun t299 => (if t299 ≤ 0 then (some (0, 0, 0, false)) else (some (bt291.1, bt291.2.1, bt291.2.2, true))))) else (some (0, 0, 0, false))))))))) else (some (0, 0, 0, false))) else (some (0, 0, 0, false))) else (some (0, 0, 0, false))))) = some (r1, r2, r3, r4) := H
     have A29 := aaM A290
     clear A290
     replace H := ooB.mp H
     obtain ⟨⟨t281, t282, t283, t284⟩, A300, H⟩ := H
     replace H : ((split_binsM.f k a0_0 a0_1 a0_2 l0_3 l0_4 (wrap64 (a1 + 1)) a0_1).bind fun bt285 => (if t280 = true then (if t284 = true then (if bt285.2.2.2 = true then ((split_means_size.f k t281 t282 t283).bind fun t289 => (if t289 < a2 then (some (0, 0, 0, false)) else ((split_means_size.f k bt285.1 bt285.2.1 bt285.2.2.1).bind fun t290 => (if t290 < a2 then (some (0, 0, 0, false)) else ((split_means_score.f k t281 t282 t283 bt285.1 bt285.2.1 bt285.2.2.1).bind fun bt291 => ((frac_Right.f bt291.1 bt291.2.1 bt291.2.2).bind fun t295 => (if t295 = true then ((split_means_alone.f k t277 t278 t279).bind fun bt296 => ((frac_Cmp.f k bt291.1 bt291.2.1 bt291.2.2 bt296.1 bt296.2.1 bt296.2.2).bind fun t299 => (if t299 ≤ 0 then (some (0, 0, 0, false)) else (some (bt291.1, bt291.2.1, bt291.2.2, true))))) else (some (0, 0, 0, false))))))))) else (some (0, 0, 0, false))) else (some (0, 0, 0, false))) else (some (0, 0, 0, false)))) = some (r1, r2, r3, r4) := H
     have A30 := aaM A300
     clear A300
     replace H := ooB.mp H
     obtain ⟨⟨t285, t286, t287, t288⟩, A310, H⟩ := H
     replace H : (if t280 = true then (if t284 = true then (if t288 = true then ((split_means_size.f k t281 t282 t283).bind fun t289 => (if t289 < a2 then (some (0, 0, 0, false)) else ((split_means_size.f k t285 t286 t287).bind fun t290 => (if t290 < a2 then (some (0, 0, 0, false)) else ((split_means_score.f k t281 t282 t283 t285 t286 t287).bind fun bt291 => ((frac_Right.f bt291.1 bt291.2.1 bt291.2.2).bind fun t295 => (if t295 = true then ((split_means_alone.f k t277 t278 t279).bind fun bt296 => ((frac_Cmp.f k bt291.1 bt291.2.1 bt291.2.2 bt296.1 bt296.2.1 bt296.2.2).bind fun t299 => (if t299 ≤ 0 then (some (0, 0, 0, false)) else (some (bt291.1, bt291.2.1, bt291.2.2, true))))) else (some (0, 0, 0, false))))))))) else (some (0, 0, 0, false))) else (some (0, 0, 0, false))) else (some (0, 0, 0, false))) = some (r1, r2, r3, r4) := H
     have A31 := aaM A310
     clear A310
     go_enter Try.func10, Try.ntmps10
     go_upto_region 6 with (first | ((with_reducible refine gate_dst (N := 3) rfl ?_); refine box_event ?hg (N := 3) ?hd (cs := #[.int .i64 a0_0, .int .i64 a0_1, .int .i64 a0_2, .slice A0_3 l0_3.length c0_3, .slice A0_4 l0_4.length c0_4]) (t := 25) ?hr ?_; (case hd => rfl); (case hg => rfl); (case hr => first | (go_simp; done) | (go_simp; rfl)); intro gb274 hg w37 hbox hb; have hP_ := lQ (by repeat (first | (with_reducible first | exact HB.out | apply lA | apply lN | apply lD) | exact HB.out)) hb; replace HB := aaM hP_.1; have BK274 := aaM (hbox); have GW274 := aaM (gQ hg hP_.2); have GE274 := aaM (gQ hg hP_.2); clear hP_ hb hbox hg) | ((with_reducible refine gate_dst (N := 6) rfl ?_); refine box_event ?hg (N := 6) ?hd (cs := #[.int .u64 0, .int .u64 0, .int .u64 0]) (t := 32) ?hr ?_; (case hd => rfl); (case hg => rfl); (case hr => first | (go_simp; done) | (go_simp; rfl)); intro gb275 hg w38 hbox hb; have hP_ := lQ (by repeat (first | (with_reducible first | exact HB.out | apply lA | apply lN | apply lD | refine lS ?_ GE274.out) | exact HB.out)) hb; replace HB := aaM hP_.1; have BK275 := aaM (hbox); have GW275 := aaM (gQ hg hP_.2); have GE275 := aaM (gQ hg hP_.2); have NB274_275 := aaM (nL hg BK274.out); have NB275_274 := aaM (nL hg BK274.out).symm; replace BK274 := aaM (bX hb BK274.out); clear hP_ hb hbox hg; have hnb39 := NB274_275.out; have hnc39 := NB275_274.out; obtain ⟨hcz40_0, hcz40_1, hcz40_2, hcz40_3, hcz40_4, hfz40_0, hfz40_1, hfz40_2, hfz40_3, hfz40_4⟩ := bE5 BK274.out) | ((with_reducible refine gate_callee (f := 18) rfl ?_); refine goesL_ (some 16) rfl rfl Try.func18 (by kernel_rfl) rfl #[.agg #[.int .i64 a0_0, .int .i64 a0_1, .int .i64 a0_2, .slice A0_3 l0_3.length c0_3, .slice A0_4 l0_4.length c0_4]] rfl (by (try simp only [mmT, mmC, mmN]); first | done | rfl | (simp only [ddD, ddT]; rfl)) ?_; (with_reducible refine (hist_Right.calls a0_0 a0_1 a0_2 _ _ l0_3 _ _ l0_4 true _ ?side1 ?side2 ?side3 ?side4 A4.out).mono ?_); (case side1 => repeat (first | exact (ccB HR0_3.out HB.out) | (with_reducible refine ccA ?_ _) | (with_reducible refine ccN ?_ _) | (with_reducible refine ccD ?_))); (case side2 => exact HC0_3.out); (case side3 => repeat (first | exact (ccB HR0_4.out HB.out) | (with_reducible refine ccA ?_ _) | (with_reducible refine ccN ?_ _) | (with_reducible refine ccD ?_))); (case side4 => exact HC0_4.out); rintro e w41 ⟨rfl, hb⟩; refine ⟨_, rfl, ?_⟩; replace BK274 := aaM (bX hb BK274.out); replace BK275 := aaM (bX hb BK275.out); replace HB := aaM (lP (by repeat (first | (with_reducible first | exact HB.out | apply lA | apply lN | apply lD | refine lS ?_ GE274.out | refine lS ?_ GE275.out) | exact HB.out)) hb); (try clear hb); (try clear hb2); (try clear hk); (try clear hi); obtain ⟨hcz42_0, hcz42_1, hcz42_2, hcz42_3, hcz42_4, hfz42_0, hfz42_1, hfz42_2, hfz42_3, hfz42_4⟩ := bE5 BK274.out) | ((with_reducible refine gate_callee (f := 19) rfl ?_); refine goesL_ (some 38) rfl rfl Try.func19 (by kernel_rfl) rfl #[.agg #[.int .i64 a0_0, .int .i64 a0_1, .int .i64 a0_2, .slice A0_3 l0_3.length c0_3, .slice A0_4 l0_4.length c0_4], .int .i64 0, .int .i64 a0_1] rfl (by (try simp only [mmT, mmC, mmN]); first | done | rfl | (simp only [ddD, ddT]; rfl)) ?_; (with_reducible refine (split_binsM.calls k a0_0 a0_1 a0_2 _ _ l0_3 _ _ l0_4 0 a0_1 t277 t278 t279 t280 _ ?side1 ?side2 ?side3 ?side4 HKI.out A29.out).mono ?_); (case side1 => repeat (first | exact (ccB HR0_3.out HB.out) | (with_reducible refine ccA ?_ _) | (with_reducible refine ccN ?_ _) | (with_reducible refine ccD ?_))); (case side2 => exact HC0_3.out); (case side3 => repeat (first | exact (ccB HR0_4.out HB.out) | (with_reducible refine ccA ?_ _) | (with_reducible refine ccN ?_ _) | (with_reducible refine ccD ?_))); (case side4 => exact HC0_4.out); rintro e w43 ⟨rfl, hb⟩; refine ⟨_, rfl, ?_⟩; replace BK274 := aaM (bX hb BK274.out); replace BK275 := aaM (bX hb BK275.out); replace HB := aaM (lP (by repeat (first | (with_reducible first | exact HB.out | apply lA | apply lN | apply lD | refine lS ?_ GE274.out | refine lS ?_ GE275.out) | exact HB.out)) hb); (try clear hb); (try clear hb2); (try clear hk); (try clear hi); obtain ⟨hcz44_0, hcz44_1, hcz44_2, hcz44_3, hcz44_4, hfz44_0, hfz44_1, hfz44_2, hfz44_3, hfz44_4⟩ := bE5 BK274.out) | ((with_reducible refine gate_callee (f := 19) rfl ?_); refine goesL_ (some 45) rfl rfl Try.func19 (by kernel_rfl) rfl #[.agg #[.int .i64 a0_0, .int .i64 a0_1, .int .i64 a0_2, .slice A0_3 l0_3.length c0_3, .slice A0_4 l0_4.length c0_4], .int .i64 0, .int .i64 (wrap64 (a1 + 1))] rfl (by (try simp only [mmT, mmC, mmN]); first | done | rfl | (simp only [ddD, ddT]; rfl)) ?_; (with_reducible refine (split_binsM.calls k a0_0 a0_1 a0_2 _ _ l0_3 _ _ l0_4 0 (wrap64 (a1 + 1)) t281 t282 t283 t284 _ ?side1 ?side2 ?side3 ?side4 HKI.out A30.out).mono ?_); (case side1 => repeat (first | exact (ccB HR0_3.out HB.out) | (with_reducible refine ccA ?_ _) | (with_reducible refine ccN ?_ _) | (with_reducible refine ccD ?_))); (case side2 => exact HC0_3.out); (case side3 => repeat (first | exact (ccB HR0_4.out HB.out) | (with_reducible refine ccA ?_ _) | (with_reducible refine ccN ?_ _) | (with_reducible refine ccD ?_))); (case side4 => exact HC0_4.out); rintro e w45 ⟨rfl, hb⟩; refine ⟨_, rfl, ?_⟩; replace BK274 := aaM (bX hb BK274.out); replace BK275 := aaM (bX hb BK275.out); replace HB := aaM (lP (by repeat (first | (with_reducible first | exact HB.out | apply lA | apply lN | apply lD | refine lS ?_ GE274.out | refine lS ?_ GE275.out) | exact HB.out)) hb); (try clear hb); (try clear hb2); (try clear hk); (try clear hi); obtain ⟨hcz46_0, hcz46_1, hcz46_2, hcz46_3, hcz46_4, hfz46_0, hfz46_1, hfz46_2, hfz46_3, hfz46_4⟩ := bE5 BK274.out) | ((with_reducible refine gate_callee (f := 19) rfl ?_); refine goesL_ (some 54) rfl rfl Try.func19 (by kernel_rfl) rfl #[.agg #[.int .i64 a0_0, .int .i64 a0_1, .int .i64 a0_2, .slice A0_3 l0_3.length c0_3, .slice A0_4 l0_4.length c0_4], .int .i64 (wrap64 (a1 + 1)), .int .i64 a0_1] rfl (by (try simp only [mmT, mmC, mmN]); first | done | rfl | (simp only [ddD, ddT]; rfl)) ?_; (with_reducible refine (split_binsM.calls k a0_0 a0_1 a0_2 _ _ l0_3 _ _ l0_4 (wrap64 (a1 + 1)) a0_1 t285 t286 t287 t288 _ ?side1 ?side2 ?side3 ?side4 HKI.out A31.out).mono ?_); (case side1 => repeat (first | exact (ccB HR0_3.out HB.out) | (with_reducible refine ccA ?_ _) | (with_reducible refine ccN ?_ _) | (with_reducible refine ccD ?_))); (case side2 => exact HC0_3.out); (case side3 => repeat (first | exact (ccB HR0_4.out HB.out) | (with_reducible refine ccA ?_ _) | (with_reducible refine ccN ?_ _) | (with_reducible refine ccD ?_))); (case side4 => exact HC0_4.out); rintro e w47 ⟨rfl, hb⟩; refine ⟨_, rfl, ?_⟩; replace BK274 := aaM (bX hb BK274.out); replace BK275 := aaM (bX hb BK275.out); replace HB := aaM (lP (by repeat (first | (with_reducible first | exact HB.out | apply lA | apply lN | apply lD | refine lS ?_ GE274.out | refine lS ?_ GE275.out) | exact HB.out)) hb); (try clear hb); (try clear hb2); (try clear hk); (try clear hi)))
     by_cases c32 : t280 = true
     ·subst c32
      have H1 : (if t284 = true then (if t288 = true then ((split_means_size.f k t281 t282 t283).bind fun t289 => (if t289 < a2 then (some (0, 0, 0, false)) else ((split_means_size.f k t285 t286 t287).bind fun t290 => (if t290 < a2 then (some (0, 0, 0, false)) else ((split_means_score.f k t281 t282 t283 t285 t286 t287).bind fun bt291 => ((frac_Right.f bt291.1 bt291.2.1 bt291.2.2).bind fun t295 => (if t295 = true then ((split_means_alone.f k t277 t278 t279).bind fun bt296 => ((frac_Cmp.f k bt291.1 bt291.2.1 bt291.2.2 bt296.1 bt296.2.1 bt296.2.2).bind fun t299 => (if t299 ≤ 0 then (some (0, 0, 0, false)) else (some (bt291.1, bt291.2.1, bt291.2.2, true))))) else (some (0, 0, 0, false))))))))) else (some (0, 0, 0, false))) else (some (0, 0, 0, false))) = some (r1, r2, r3, r4) := by rw [if_pos rfl] at H; exact H
      clear H
      have H := H1
      clear H1
      by_cases c33 : t284 = true
      ·subst c33
       have H1 : (if t288 = true then ((split_means_size.f k t281 t282 t283).bind fun t289 => (if t289 < a2 then (some (0, 0, 0, false)) else ((split_means_size.f k t285 t286 t287).bind fun t290 => (if t290 < a2 then (some (0, 0, 0, false)) else ((split_means_score.f k t281 t282 t283 t285 t286 t287).bind fun bt291 => ((frac_Right.f bt291.1 bt291.2.1 bt291.2.2).bind fun t295 => (if t295 = true then ((split_means_alone.f k t277 t278 t279).bind fun bt296 => ((frac_Cmp.f k bt291.1 bt291.2.1 bt291.2.2 bt296.1 bt296.2.1 bt296.2.2).bind fun t299 => (if t299 ≤ 0 then (some (0, 0, 0, false)) else (some (bt291.1, bt291.2.1, bt291.2.2, true))))) else (some (0, 0, 0, false))))))))) else (some (0, 0, 0, false))) = some (r1, r2, r3, r4) := by rw [if_pos rfl] at H; exact H
       clear H
       have H := H1
       clear H1
       by_cases c34 : t288 = true
       ·subst c34
        have H1 : ((split_means_size.f k t281 t282 t283).bind fun t289 => (if t289 < a2 then (some (0, 0, 0, false)) else ((split_means_size.f k t285 t286 t287).bind fun t290 => (if t290 < a2 then (some (0, 0, 0, false)) else ((split_means_score.f k t281 t282 t283 t285 t286 t287).bind fun bt291 => ((frac_Right.f bt291.1 bt291.2.1 bt291.2.2).bind fun t295 => (if t295 = true then ((split_means_alone.f k t277 t278 t279).bind fun bt296 => ((frac_Cmp.f k bt291.1 bt291.2.1 bt291.2.2 bt296.1 bt296.2.1 bt296.2.2).bind fun t299 => (if t299 ≤ 0 then (some (0, 0, 0, false)) else (some (bt291.1, bt291.2.1, bt291.2.2, true))))) else (some (0, 0, 0, false))))))))) = some (r1, r2, r3, r4) := by rw [if_pos rfl] at H; exact H
        clear H
        have H := H1
        clear H1
        replace H := ooB.mp H
        obtain ⟨t289, A350, H⟩ := H
        replace H : (if t289 < a2 then (some (0, 0, 0, false)) else ((split_means_size.f k t285 t286 t287).bind fun t290 => (if t290 < a2 then (some (0, 0, 0, false)) else ((split_means_score.f k t281 t282 t283 t285 t286 t287).bind fun bt291 => ((frac_Right.f bt291.1 bt291.2.1 bt291.2.2).bind fun t295 => (if t295 = true then ((split_means_alone.f k t277 t278 t279).bind fun bt296 => ((frac_Cmp.f k bt291.1 bt291.2.1 bt291.2.2 bt296.1 bt296.2.1 bt296.2.2).bind fun t299 => (if t299 ≤ 0 then (some (0, 0, 0, false)) else (some (bt291.1, bt291.2.1, bt291.2.2, true))))) else (some (0, 0, 0, false)))))))) = some (r1, r2, r3, r4) := H
        have A35 := aaM A350
        clear A350
        by_cases c36 : t289 < a2
        ·rw [if_pos c36] at H
         have c36b0 : decide (t289 < a2) = true := decide_eq_true c36
         clear c36
         simp only [Option.some.injEq, Prod.mk.injEq] at H
         obtain ⟨rfl, rfl, rfl, rfl⟩ := H
         skip
         go_wp2_with (first | (go_at_call 93; (with_reducible refine (split_means_size.calls k t281 t282 t283 t289 _ A35.out).mono ?_); rintro e w48 ⟨rfl, hb⟩; replace BK274 := aaM (bX hb BK274.out); replace BK275 := aaM (bX hb BK275.out); replace HB := aaM (lP (by repeat (first | (with_reducible first | exact HB.out | apply lA | apply lN | apply lD | refine lS ?_ GE274.out | refine lS ?_ GE275.out) | exact HB.out)) hb); (try clear hb); (try clear hb2); (try clear hk); (try clear hi); obtain ⟨hcz49_0, hcz49_1, hcz49_2, hfz49_0, hfz49_1, hfz49_2⟩ := bE3 BK275.out))
         refine bodyPost_ret (results_ct rfl _ _ gb275 32 #[.int .u64 0, .int .u64 0, .int .u64 0] (0, 0) _ rfl (by (with_reducible repeat (first | refine bN ?_ _ | refine bD ?_ | refine bA ?_ _)); refine blk_put (cs := #[.int .u64 0, .int .u64 0, .int .u64 0]) ?_ 2 _ rfl; (with_reducible repeat (first | refine bN ?_ _ | refine bD ?_ | refine bA ?_ _)); refine blk_put (cs := #[.int .u64 0, .int .u64 0, .int .u64 0]) ?_ 1 _ rfl; (with_reducible repeat (first | refine bN ?_ _ | refine bD ?_ | refine bA ?_ _)); refine blk_put (cs := #[.int .u64 0, .int .u64 0, .int .u64 0]) ?_ 0 _ rfl; (with_reducible repeat (first | refine bN ?_ _ | refine bD ?_ | refine bA ?_ _)); exact BK275.out) Try.underlying32 rfl (by kernel_rfl)) rfl ?_
         exact ⟨by first | rfl | (simp [errW_none, errW_some] <;> rfl) | (simp [*, errW_none, errW_some] <;> rfl), by repeat (first | (with_reducible first | exact HB.out | apply lA | apply lN | apply lD | refine lS ?_ GE274.out | refine lS ?_ GE275.out) | exact HB.out)⟩
        ·rw [if_neg c36] at H
         have c36b0 : decide (t289 < a2) = false := decide_eq_false c36
         clear c36
         replace H := ooB.mp H
         obtain ⟨t290, A500, H⟩ := H
         replace H : (if t290 < a2 then (some (0, 0, 0, false)) else ((split_means_score.f k t281 t282 t283 t285 t286 t287).bind fun bt291 => ((frac_Right.f bt291.1 bt291.2.1 bt291.2.2).bind fun t295 => (if t295 = true then ((split_means_alone.f k t277 t278 t279).bind fun bt296 => ((frac_Cmp.f k bt291.1 bt291.2.1 bt291.2.2 bt296.1 bt296.2.1 bt296.2.2).bind fun t299 => (if t299 ≤ 0 then (some (0, 0, 0, false)) else (some (bt291.1, bt291.2.1, bt291.2.2, true))))) else (some (0, 0, 0, false)))))) = some (r1, r2, r3, r4) := H
         have A50 := aaM A500
         clear A500
         by_cases c51 : t290 < a2
         ·rw [if_pos c51] at H
          have c51b0 : decide (t290 < a2) = true := decide_eq_true c51
          clear c51
          simp only [Option.some.injEq, Prod.mk.injEq] at H
          obtain ⟨rfl, rfl, rfl, rfl⟩ := H
          skip
          go_wp2_with (first | (go_at_call 93; (with_reducible refine (split_means_size.calls k t281 t282 t283 t289 _ A35.out).mono ?_); rintro e w63 ⟨rfl, hb⟩; replace BK274 := aaM (bX hb BK274.out); replace BK275 := aaM (bX hb BK275.out); replace HB := aaM (lP (by repeat (first | (with_reducible first | exact HB.out | apply lA | apply lN | apply lD | refine lS ?_ GE274.out | refine lS ?_ GE275.out) | exact HB.out)) hb); (try clear hb); (try clear hb2); (try clear hk); (try clear hi)) | (go_at_call 93; (with_reducible refine (split_means_size.calls k t285 t286 t287 t290 _ A50.out).mono ?_); rintro e w64 ⟨rfl, hb⟩; replace BK274 := aaM (bX hb BK274.out); replace BK275 := aaM (bX hb BK275.out); replace HB := aaM (lP (by repeat (first | (with_reducible first | exact HB.out | apply lA | apply lN | apply lD | refine lS ?_ GE274.out | refine lS ?_ GE275.out) | exact HB.out)) hb); (try clear hb); (try clear hb2); (try clear hk); (try clear hi); obtain ⟨hcz65_0, hcz65_1, hcz65_2, hfz65_0, hfz65_1, hfz65_2⟩ := bE3 BK275.out))
          refine bodyPost_ret (results_ct rfl _ _ gb275 32 #[.int .u64 0, .int .u64 0, .int .u64 0] (0, 0) _ rfl (by (with_reducible repeat (first | refine bN ?_ _ | refine bD ?_ | refine bA ?_ _)); refine blk_put (cs := #[.int .u64 0, .int .u64 0, .int .u64 0]) ?_ 2 _ rfl; (with_reducible repeat (first | refine bN ?_ _ | refine bD ?_ | refine bA ?_ _)); refine blk_put (cs := #[.int .u64 0, .int .u64 0, .int .u64 0]) ?_ 1 _ rfl; (with_reducible repeat (first | refine bN ?_ _ | refine bD ?_ | refine bA ?_ _)); refine blk_put (cs := #[.int .u64 0, .int .u64 0, .int .u64 0]) ?_ 0 _ rfl; (with_reducible repeat (first | refine bN ?_ _ | refine bD ?_ | refine bA ?_ _)); exact BK275.out) Try.underlying32 rfl (by kernel_rfl)) rfl ?_
          exact ⟨by first | rfl | (simp [errW_none, errW_some] <;> rfl) | (simp [*, errW_none, errW_some] <;> rfl), by repeat (first | (with_reducible first | exact HB.out | apply lA | apply lN | apply lD | refine lS ?_ GE274.out | refine lS ?_ GE275.out) | exact HB.out)⟩
         ·rw [if_neg c51] at H
          have c51b0 : decide (t290 < a2) = false := decide_eq_false c51
          clear c51
          replace H := ooB.mp H
          obtain ⟨⟨t291, t292, t293⟩, A660, H⟩ := H
          replace H : ((frac_Right.f t291 t292 t293).bind fun t295 => (if t295 = true then ((split_means_alone.f k t277 t278 t279).bind fun bt296 => ((frac_Cmp.f k t291 t292 t293 bt296.1 bt296.2.1 bt296.2.2).bind fun t299 => (if t299 ≤ 0 then (some (0, 0, 0, false)) else (some (t291, t292, t293, true))))) else (some (0, 0, 0, false)))) = some (r1, r2, r3, r4) := H
          have A66 := aaM A660
          clear A660
          replace H := ooB.mp H
          obtain ⟨t295, A670, H⟩ := H
          replace H : (if t295 = true then ((split_means_alone.f k t277 t278 t279).bind fun bt296 => ((frac_Cmp.f k t291 t292 t293 bt296.1 bt296.2.1 bt296.2.2).bind fun t299 => (if t299 ≤ 0 then (some (0, 0, 0, false)) else (some (t291, t292, t293, true))))) else (some (0, 0, 0, false))) = some (r1, r2, r3, r4) := H
          have A67 := aaM A670
          clear A670
          by_cases c68 : t295 = true
          ·subst c68
           have H1 : ((split_means_alone.f k t277 t278 t279).bind fun bt296 => ((frac_Cmp.f k t291 t292 t293 bt296.1 bt296.2.1 bt296.2.2).bind fun t299 => (if t299 ≤ 0 then (some (0, 0, 0, false)) else (some (t291, t292, t293, true))))) = some (r1, r2, r3, r4) := by rw [if_pos rfl] at H; exact H
           clear H
           have H := H1
           clear H1
           replace H := ooB.mp H
           obtain ⟨⟨t296, t297, t298⟩, A690, H⟩ := H
           replace H : ((frac_Cmp.f k t291 t292 t293 t296 t297 t298).bind fun t299 => (if t299 ≤ 0 then (some (0, 0, 0, false)) else (some (t291, t292, t293, true)))) = some (r1, r2, r3, r4) := H
           have A69 := aaM A690
           clear A690
           replace H := ooB.mp H
           obtain ⟨t299, A700, H⟩ := H
           replace H : (if t299 ≤ 0 then (some (0, 0, 0, false)) else (some (t291, t292, t293, true))) = some (r1, r2, r3, r4) := H
           have A70 := aaM A700
           clear A700
           by_cases c71 : t299 ≤ 0
           ·rw [if_pos c71] at H
            have c71b0 : decide (t299 ≤ 0) = true := decide_eq_true c71
            clear c71
            simp only [Option.some.injEq, Prod.mk.injEq] at H
            obtain ⟨rfl, rfl, rfl, rfl⟩ := H
            skip
            try go_wp2_with (first | (go_at_call 93; (with_reducible refine (split_means_size.calls k t281 t282 t283 t289 _ A35.out).mono ?_); rintro e w83 ⟨rfl, hb⟩; replace BK274 := aaM (bX hb BK274.out); replace BK275 := aaM (bX hb BK275.out); replace HB := aaM (lP (by repeat (first | (with_reducible first | exact HB.out | apply lA | apply lN | apply lD | refine lS ?_ GE274.out | refine lS ?_ GE275.out) | exact HB.out)) hb); (try clear hb); (try clear hb2); (try clear hk); (try clear hi)) | (go_at_call 93; (with_reducible refine (split_means_size.calls k t285 t286 t287 t290 _ A50.out).mono ?_); rintro e w84 ⟨rfl, hb⟩; replace BK274 := aaM (bX hb BK274.out); replace BK275 := aaM (bX hb BK275.out); replace HB := aaM (lP (by repeat (first | (with_reducible first | exact HB.out | apply lA | apply lN | apply lD | refine lS ?_ GE274.out | refine lS ?_ GE275.out) | exact HB.out)) hb); (try clear hb); (try clear hb2); (try clear hk); (try clear hi)) | ((with_reducible refine gate_dst (N := 82) rfl ?_); refine goesIL_ (T := 83) (some 82) rfl rfl Try.func92 (by kernel_rfl) rfl #[.iface 83 (.agg #[.int .i64 t285, .int .i64 t286, .int .i64 t287])] #[.agg #[.int .i64 t281, .int .i64 t282, .int .i64 t283], .iface 83 (.agg #[.int .i64 t285, .int .i64 t286, .int .i64 t287])] rfl (split_CutM.mscore _ _) rfl rfl (by first | rfl | simp [Act.eval]) ?_; (with_reducible refine (split_means_score.calls k t281 t282 t283 t285 t286 t287 t291 t292 t293 _ A66.out).mono ?_); rintro e w85 ⟨rfl, hb⟩; refine ⟨_, rfl, ?_⟩; replace BK274 := aaM (bX hb BK274.out); replace BK275 := aaM (bX hb BK275.out); replace HB := aaM (lP (by repeat (first | (with_reducible first | exact HB.out | apply lA | apply lN | apply lD | refine lS ?_ GE274.out | refine lS ?_ GE275.out) | exact HB.out)) hb); (try clear hb); (try clear hb2); (try clear hk); (try clear hi)) | ((with_reducible refine gate_dst (N := 14) rfl ?_); refine box_event ?hg (N := 14) ?hd (cs := #[.int .u64 0, .int .u64 0, .int .u64 0]) (t := 32) ?hr ?_; (case hd => rfl); (case hg => rfl); (case hr => first | (go_simp; done) | (go_simp; rfl)); intro gb294 hg w86 hbox hb; have hP_ := lQ (by repeat (first | (with_reducible first | exact HB.out | apply lA | apply lN | apply lD | refine lS ?_ GE274.out | refine lS ?_ GE275.out) | exact HB.out)) hb; replace HB := aaM hP_.1; have BK294 := aaM (hbox); have GW294 := aaM (gQ hg hP_.2); have GE294 := aaM (gQ hg hP_.2); have NB274_294 := aaM (nL hg BK274.out); have NB294_274 := aaM (nL hg BK274.out).symm; replace BK274 := aaM (bX hb BK274.out); have NB275_294 := aaM (nL hg BK275.out); have NB294_275 := aaM (nL hg BK275.out).symm; replace BK275 := aaM (bX hb BK275.out); clear hP_ hb hbox hg; have hnb87 := NB294_274.out; have hnc87 := NB274_294.out; have hnb88 := NB294_275.out; have hnc88 := NB275_294.out; obtain ⟨hcz89_0, hcz89_1, hcz89_2, hfz89_0, hfz89_1, hfz89_2⟩ := bE3 BK294.out))
            have n0_ : Aside0 ((((w86.setCell ⟨gb294, 0, none⟩ (.int .u64 t291)).setCell ⟨gb294, 1, none⟩ (.int .u64 t292)).setCell ⟨gb294, 2, none⟩ (.int .u64 t293)).heap[gb274]? = some (.cells #[.int .i64 a0_0, .int .i64 a0_1, .int .i64 a0_2, .slice A0_3 l0_3.length c0_3, .slice A0_4 l0_4.length c0_4] 25 (0, 0))) := ⟨by (with_reducible repeat (first | refine bN ?_ _ | refine bD ?_ | refine bA ?_ _)); refine blk_far ?_ NB274_294.out _; (with_reducible repeat (first | refine bN ?_ _ | refine bD ?_ | refine bA ?_ _)); refine blk_far ?_ NB274_294.out _; (with_reducible repeat (first | refine bN ?_ _ | refine bD ?_ | refine bA ?_ _)); refine blk_far ?_ NB274_294.out _; (with_reducible repeat (first | refine bN ?_ _ | refine bD ?_ | refine bA ?_ _)); exact BK274.out⟩
            have n1_ : Aside0 ((((w86.setCell ⟨gb294, 0, none⟩ (.int .u64 t291)).setCell ⟨gb294, 1, none⟩ (.int .u64 t292)).setCell ⟨gb294, 2, none⟩ (.int .u64 t293)).heap[gb275]? = some (.cells #[.int .u64 0, .int .u64 0, .int .u64 0] 32 (0, 0))) := ⟨by (with_reducible repeat (first | refine bN ?_ _ | refine bD ?_ | refine bA ?_ _)); refine blk_far ?_ NB275_294.out _; (with_reducible repeat (first | refine bN ?_ _ | refine bD ?_ | refine bA ?_ _)); refine blk_far ?_ NB275_294.out _; (with_reducible repeat (first | refine bN ?_ _ | refine bD ?_ | refine bA ?_ _)); refine blk_far ?_ NB275_294.out _; (with_reducible repeat (first | refine bN ?_ _ | refine bD ?_ | refine bA ?_ _)); exact BK275.out⟩
            have n2_ : Aside0 ((((w86.setCell ⟨gb294, 0, none⟩ (.int .u64 t291)).setCell ⟨gb294, 1, none⟩ (.int .u64 t292)).setCell ⟨gb294, 2, none⟩ (.int .u64 t293)).heap[gb294]? = some (.cells #[.int .u64 t291, .int .u64 t292, .int .u64 t293] 32 (0, 0))) := ⟨by (with_reducible repeat (first | refine bN ?_ _ | refine bD ?_ | refine bA ?_ _)); refine blk_put (cs := #[.int .u64 t291, .int .u64 t292, .int .u64 0]) ?_ 2 _ rfl; (with_reducible repeat (first | refine bN ?_ _ | refine bD ?_ | refine bA ?_ _)); refine blk_put (cs := #[.int .u64 t291, .int .u64 0, .int .u64 0]) ?_ 1 _ rfl; (with_reducible repeat (first | refine bN ?_ _ | refine bD ?_ | refine bA ?_ _)); refine blk_put (cs := #[.int .u64 0, .int .u64 0, .int .u64 0]) ?_ 0 _ rfl; (with_reducible repeat (first | refine bN ?_ _ | refine bD ?_ | refine bA ?_ _)); exact BK294.out⟩
            have n3_ : Aside0 (Below w.heap.size w (((w86.setCell ⟨gb294, 0, none⟩ (.int .u64 t291)).setCell ⟨gb294, 1, none⟩ (.int .u64 t292)).setCell ⟨gb294, 2, none⟩ (.int .u64 t293))) := ⟨by repeat (first | (with_reducible first | exact HB.out | apply lA | apply lN | apply lD | refine lS ?_ GE274.out | refine lS ?_ GE275.out | refine lS ?_ GE294.out) | exact HB.out)⟩
            (try clear BK274)
            (try clear BK275)
            (try clear BK294)
            (try clear HB)
            generalize (((w86.setCell ⟨gb294, 0, none⟩ (.int .u64 t291)).setCell ⟨gb294, 1, none⟩ (.int .u64 t292)).setCell ⟨gb294, 2, none⟩ (.int .u64 t293)) = w90 at n0_ n1_ n2_ n3_ ⊢
            have BK274 := n0_
            have BK275 := n1_
            have BK294 := n2_
            have HB := n3_
            clear n0_ n1_ n2_ n3_
            replace BK274 := aaM (bD BK274.out)
            replace BK275 := aaM (bD BK275.out)
            replace BK294 := aaM (bD BK294.out)
            replace HB := aaM (lD HB.out)
            refine start_ (n := 10) (S := fun w' => w'.cell? ⟨gb294, 0, none⟩ = some (.int .u64 t291) ∧ w'.cell? ⟨gb294, 1, none⟩ = some (.int .u64 t292) ∧ w'.cell? ⟨gb294, 2, none⟩ = some (.int .u64 t293)) (ds := []) #[false, false, false, false, false, false, false, false, false, false] (by kernel_rfl) rfl rfl ⟨(bC BK294.out 0).trans rfl, (bC BK294.out 1).trans rfl, (bC BK294.out 2).trans rfl⟩ (fun hHeld => ?_); refine with_tabW split_CutM.tab9 split_CutM.bits9 (fun HT_ HW_ => ?_)
            generalize w90.drew = w91 at BK274 BK275 BK294 HB hHeld ⊢
            refine take_ (i := 0) (N := some 83) (v := ?_) (a' := ?_) #[true, false, false, false, false, false, false, false, false, false] rfl rfl (take_ofW HT_.out HW_.out (by kernel_rfl)) (fun _ _ _ h => h) (Or.inl ⟨by rfl, ?_⟩) hHeld ?_ ?_
            rotate_left
            ·rintro w' ⟨s0, s1, s2⟩
             go_simp
             with_reducible rfl
            rotate_left
            ·simp only [Act.put, ssB, ssZ, ssS, i64_w, i32_w]
             rfl
            refine one_ (i := 1) (N := some 84) #[true, true, false, false, false, false, false, false, false, false] rfl rfl (one_of HT_.out (by kernel_rfl)) (by decide) (fun K hK => ?_)
            refine goes_ Try.func20 (by kernel_rfl) rfl #[.agg #[.int .u64 t291, .int .u64 t292, .int .u64 t293]] (by rfl) rfl rfl (by (try simp only [mmT, mmC, mmN]); first | done | rfl | (simp only [ddD, ddT]; rfl)) ?_
            with_reducible refine (frac_Right.calls t291 t292 t293 true _ A67.out).mono ?_
            rintro e w92 ⟨rfl, hb⟩
            refine ⟨_, rfl, ?_⟩
            replace BK274 := aaM (bX hb BK274.out)
            replace BK275 := aaM (bX hb BK275.out)
            replace BK294 := aaM (bX hb BK294.out)
            replace HB := aaM (lP (by repeat (first | (with_reducible first | exact HB.out | apply lA | apply lN | apply lD | refine lS ?_ GE274.out | refine lS ?_ GE275.out | refine lS ?_ GE294.out) | exact HB.out)) hb)
            (try clear hb)
            (try clear hb2)
            (try clear hk)
            (try clear hi)
            refine hK.out _ _ ⟨(bC BK294.out 0).trans rfl, (bC BK294.out 1).trans rfl, (bC BK294.out 2).trans rfl⟩ (fun hHeld => ?_)
            clear hK K
            refine norm_ (a' := ?_) ?_ ?_
            rotate_left
            ·show Act.put _ (some 84) _ = _
             simp only [Act.put, ssB, ssZ, ssS, i64_w, i32_w]
             rfl
            refine pure_ (i := 2) (N := some 85) (v := ?_) (a' := ?_) #[true, true, true, false, false, false, false, false, false, false] rfl rfl (any_of HT_.out (by kernel_rfl)) (fun _ _ _ h => h) (Or.inl ⟨by rfl, ?_⟩) ?_ ?_
            rotate_left
            ·intro w'
             go_simp
             with_reducible rfl
            rotate_left
            ·simp only [Act.put, ssB, ssZ, ssS, i64_w, i32_w]
             rfl
            refine pure_ (i := 3) (N := some 86) (v := ?_) (a' := ?_) #[true, true, true, true, false, false, false, false, false, false] rfl rfl (any_of HT_.out (by kernel_rfl)) (fun _ _ _ h => h) (Or.inl ⟨by rfl, ?_⟩) ?_ ?_
            rotate_left
            ·intro w'
             go_simp
             with_reducible rfl
            rotate_left
            ·simp only [Act.put, ssB, ssZ, ssS, i64_w, i32_w]
             rfl
            refine pure_ (i := 5) (N := some 88) (v := ?_) (a' := ?_) #[true, true, true, true, false, true, false, false, false, false] rfl rfl (any_of HT_.out (by kernel_rfl)) (fun _ _ _ h => h) (Or.inl ⟨by rfl, ?_⟩) ?_ ?_
            rotate_left
            ·intro w'
             go_simp
             with_reducible rfl
            rotate_left
            ·simp only [Act.put, ssB, ssZ, ssS, i64_w, i32_w]
             rfl
            refine take_ (i := 4) (N := some 87) (v := ?_) (a' := ?_) #[true, true, true, true, true, true, false, false, false, false] rfl rfl (take_ofW HT_.out HW_.out (by kernel_rfl)) (fun _ _ _ h => h) (Or.inl ⟨by rfl, ?_⟩) hHeld ?_ ?_
            rotate_left
            ·rintro w' ⟨s0, s1, s2⟩
             go_simp
             with_reducible rfl
            rotate_left
            ·simp only [Act.put, ssB, ssZ, ssS, i64_w, i32_w]
             rfl
            refine one_ (i := 6) (N := some 89) #[true, true, true, true, true, true, true, false, false, false] rfl rfl (one_of HT_.out (by kernel_rfl)) (by decide) (fun K hK => ?_)
            refine goesI_ (T := 83) Try.func91 (by kernel_rfl) rfl #[] #[.agg #[.int .i64 t277, .int .i64 t278, .int .i64 t279]] rfl (split_CutM.malone _ _) (by rfl) rfl rfl rfl (by simp) ?_
            with_reducible refine (split_means_alone.calls k t277 t278 t279 t296 t297 t298 _ A69.out).mono ?_
            rintro e w93 ⟨rfl, hb⟩
            refine ⟨_, rfl, ?_⟩
            replace BK274 := aaM (bX hb BK274.out)
            replace BK275 := aaM (bX hb BK275.out)
            replace BK294 := aaM (bX hb BK294.out)
            replace HB := aaM (lP (by repeat (first | (with_reducible first | exact HB.out | apply lA | apply lN | apply lD | refine lS ?_ GE274.out | refine lS ?_ GE275.out | refine lS ?_ GE294.out) | exact HB.out)) hb)
            (try clear hb)
            (try clear hb2)
            (try clear hk)
            (try clear hi)
            refine hK.out _ _ ⟨(bC BK294.out 0).trans rfl, (bC BK294.out 1).trans rfl, (bC BK294.out 2).trans rfl⟩ (fun hHeld => ?_)
            clear hK K
            refine norm_ (a' := ?_) ?_ ?_
            rotate_left
            ·show Act.put _ (some 89) _ = _
             simp only [Act.put, ssB, ssZ, ssS, i64_w, i32_w]
             rfl
            refine one_ (i := 7) (N := some 90) #[true, true, true, true, true, true, true, true, false, false] rfl rfl (one_of HT_.out (by kernel_rfl)) (by decide) (fun K hK => ?_)
            refine goes_ Try.func21 (by kernel_rfl) rfl #[.agg #[.int .u64 t291, .int .u64 t292, .int .u64 t293], .agg #[.int .u64 t296, .int .u64 t297, .int .u64 t298]] (by rfl) rfl rfl (by (try simp only [mmT, mmC, mmN]); first | done | rfl | (simp only [ddD, ddT]; rfl)) ?_
            with_reducible refine (frac_Cmp.calls k t291 t292 t293 t296 t297 t298 t299 _ A70.out).mono ?_
            rintro e w94 ⟨rfl, hb⟩
            refine ⟨_, rfl, ?_⟩
            replace BK274 := aaM (bX hb BK274.out)
            replace BK275 := aaM (bX hb BK275.out)
            replace BK294 := aaM (bX hb BK294.out)
            replace HB := aaM (lP (by repeat (first | (with_reducible first | exact HB.out | apply lA | apply lN | apply lD | refine lS ?_ GE274.out | refine lS ?_ GE275.out | refine lS ?_ GE294.out) | exact HB.out)) hb)
            (try clear hb)
            (try clear hb2)
            (try clear hk)
            (try clear hi)
            refine hK.out _ _ ⟨(bC BK294.out 0).trans rfl, (bC BK294.out 1).trans rfl, (bC BK294.out 2).trans rfl⟩ (fun hHeld => ?_)
            clear hK K
            refine norm_ (a' := ?_) ?_ ?_
            rotate_left
            ·show Act.put _ (some 90) _ = _
             simp only [Act.put, ssB, ssZ, ssS, i64_w, i32_w]
             rfl
            refine pure_ (i := 8) (N := some 91) (v := ?_) (a' := ?_) #[true, true, true, true, true, true, true, true, true, false] rfl rfl (any_of HT_.out (by kernel_rfl)) (fun _ _ _ h => h) (Or.inl ⟨by rfl, ?_⟩) ?_ ?_
            rotate_left
            ·intro w'
             go_simp
             with_reducible rfl
            rotate_left
            ·simp only [Act.put, ssB, ssZ, ssS, i64_w, i32_w]
             rfl
            refine pure_ (i := 9) (N := some 92) (v := ?_) (a' := ?_) #[true, true, true, true, true, true, true, true, true, true] rfl rfl (any_of HT_.out (by kernel_rfl)) (fun _ _ _ h => h) (Or.inl ⟨by rfl, ?_⟩) ?_ ?_
            rotate_left
            ·intro w'
             go_simp
             with_reducible rfl
            rotate_left
            ·simp only [Act.put, ssB, ssZ, ssS, i64_w, i32_w]
             rfl
            refine done_ (done_of HT_.out (by kernel_rfl)) ?_
            obtain ⟨hcz95_0, hcz95_1, hcz95_2, hfz95_0, hfz95_1, hfz95_2⟩ := bE3 BK275.out
            try go_wp2
            refine bodyPost_ret (results_ct rfl _ _ gb275 32 #[.int .u64 0, .int .u64 0, .int .u64 0] (0, 0) _ rfl (by (with_reducible repeat (first | refine bN ?_ _ | refine bD ?_ | refine bA ?_ _)); refine blk_put (cs := #[.int .u64 0, .int .u64 0, .int .u64 0]) ?_ 2 _ rfl; (with_reducible repeat (first | refine bN ?_ _ | refine bD ?_ | refine bA ?_ _)); refine blk_put (cs := #[.int .u64 0, .int .u64 0, .int .u64 0]) ?_ 1 _ rfl; (with_reducible repeat (first | refine bN ?_ _ | refine bD ?_ | refine bA ?_ _)); refine blk_put (cs := #[.int .u64 0, .int .u64 0, .int .u64 0]) ?_ 0 _ rfl; (with_reducible repeat (first | refine bN ?_ _ | refine bD ?_ | refine bA ?_ _)); exact BK275.out) Try.underlying32 rfl (by kernel_rfl)) rfl ?_
            exact ⟨by first | rfl | (simp [errW_none, errW_some] <;> rfl) | (simp [*, errW_none, errW_some] <;> rfl), by repeat (first | (with_reducible first | exact HB.out | apply lA | apply lN | apply lD | refine lS ?_ GE274.out | refine lS ?_ GE275.out | refine lS ?_ GE294.out) | exact HB.out)⟩
           ·rw [if_neg c71] at H
            have c71b0 : decide (t299 ≤ 0) = false := decide_eq_false c71
            clear c71
            simp only [Option.some.injEq, Prod.mk.injEq] at H
            obtain ⟨rfl, rfl, rfl, rfl⟩ := H
            skip
            try go_wp2_with (first | (go_at_call 93; (with_reducible refine (split_means_size.calls k t281 t282 t283 t289 _ A35.out).mono ?_); rintro e w107 ⟨rfl, hb⟩; replace BK274 := aaM (bX hb BK274.out); replace BK275 := aaM (bX hb BK275.out); replace HB := aaM (lP (by repeat (first | (with_reducible first | exact HB.out | apply lA | apply lN | apply lD | refine lS ?_ GE274.out | refine lS ?_ GE275.out) | exact HB.out)) hb); (try clear hb); (try clear hb2); (try clear hk); (try clear hi)) | (go_at_call 93; (with_reducible refine (split_means_size.calls k t285 t286 t287 t290 _ A50.out).mono ?_); rintro e w108 ⟨rfl, hb⟩; replace BK274 := aaM (bX hb BK274.out); replace BK275 := aaM (bX hb BK275.out); replace HB := aaM (lP (by repeat (first | (with_reducible first | exact HB.out | apply lA | apply lN | apply lD | refine lS ?_ GE274.out | refine lS ?_ GE275.out) | exact HB.out)) hb); (try clear hb); (try clear hb2); (try clear hk); (try clear hi)) | ((with_reducible refine gate_dst (N := 82) rfl ?_); refine goesIL_ (T := 83) (some 82) rfl rfl Try.func92 (by kernel_rfl) rfl #[.iface 83 (.agg #[.int .i64 t285, .int .i64 t286, .int .i64 t287])] #[.agg #[.int .i64 t281, .int .i64 t282, .int .i64 t283], .iface 83 (.agg #[.int .i64 t285, .int .i64 t286, .int .i64 t287])] rfl (split_CutM.mscore _ _) rfl rfl (by first | rfl | simp [Act.eval]) ?_; (with_reducible refine (split_means_score.calls k t281 t282 t283 t285 t286 t287 t291 t292 t293 _ A66.out).mono ?_); rintro e w109 ⟨rfl, hb⟩; refine ⟨_, rfl, ?_⟩; replace BK274 := aaM (bX hb BK274.out); replace BK275 := aaM (bX hb BK275.out); replace HB := aaM (lP (by repeat (first | (with_reducible first | exact HB.out | apply lA | apply lN | apply lD | refine lS ?_ GE274.out | refine lS ?_ GE275.out) | exact HB.out)) hb); (try clear hb); (try clear hb2); (try clear hk); (try clear hi)) | ((with_reducible refine gate_dst (N := 14) rfl ?_); refine box_event ?hg (N := 14) ?hd (cs := #[.int .u64 0, .int .u64 0, .int .u64 0]) (t := 32) ?hr ?_; (case hd => rfl); (case hg => rfl); (case hr => first | (go_simp; done) | (go_simp; rfl)); intro gb294 hg w110 hbox hb; have hP_ := lQ (by repeat (first | (with_reducible first | exact HB.out | apply lA | apply lN | apply lD | refine lS ?_ GE274.out | refine lS ?_ GE275.out) | exact HB.out)) hb; replace HB := aaM hP_.1; have BK294 := aaM (hbox); have GW294 := aaM (gQ hg hP_.2); have GE294 := aaM (gQ hg hP_.2); have NB274_294 := aaM (nL hg BK274.out); have NB294_274 := aaM (nL hg BK274.out).symm; replace BK274 := aaM (bX hb BK274.out); have NB275_294 := aaM (nL hg BK275.out); have NB294_275 := aaM (nL hg BK275.out).symm; replace BK275 := aaM (bX hb BK275.out); clear hP_ hb hbox hg; have hnb111 := NB294_274.out; have hnc111 := NB274_294.out; have hnb112 := NB294_275.out; have hnc112 := NB275_294.out; obtain ⟨hcz113_0, hcz113_1, hcz113_2, hfz113_0, hfz113_1, hfz113_2⟩ := bE3 BK294.out))
            have n0_ : Aside0 ((((w110.setCell ⟨gb294, 0, none⟩ (.int .u64 t291)).setCell ⟨gb294, 1, none⟩ (.int .u64 t292)).setCell ⟨gb294, 2, none⟩ (.int .u64 t293)).heap[gb274]? = some (.cells #[.int .i64 a0_0, .int .i64 a0_1, .int .i64 a0_2, .slice A0_3 l0_3.length c0_3, .slice A0_4 l0_4.length c0_4] 25 (0, 0))) := ⟨by (with_reducible repeat (first | refine bN ?_ _ | refine bD ?_ | refine bA ?_ _)); refine blk_far ?_ NB274_294.out _; (with_reducible repeat (first | refine bN ?_ _ | refine bD ?_ | refine bA ?_ _)); refine blk_far ?_ NB274_294.out _; (with_reducible repeat (first | refine bN ?_ _ | refine bD ?_ | refine bA ?_ _)); refine blk_far ?_ NB274_294.out _; (with_reducible repeat (first | refine bN ?_ _ | refine bD ?_ | refine bA ?_ _)); exact BK274.out⟩
            have n1_ : Aside0 ((((w110.setCell ⟨gb294, 0, none⟩ (.int .u64 t291)).setCell ⟨gb294, 1, none⟩ (.int .u64 t292)).setCell ⟨gb294, 2, none⟩ (.int .u64 t293)).heap[gb275]? = some (.cells #[.int .u64 0, .int .u64 0, .int .u64 0] 32 (0, 0))) := ⟨by (with_reducible repeat (first | refine bN ?_ _ | refine bD ?_ | refine bA ?_ _)); refine blk_far ?_ NB275_294.out _; (with_reducible repeat (first | refine bN ?_ _ | refine bD ?_ | refine bA ?_ _)); refine blk_far ?_ NB275_294.out _; (with_reducible repeat (first | refine bN ?_ _ | refine bD ?_ | refine bA ?_ _)); refine blk_far ?_ NB275_294.out _; (with_reducible repeat (first | refine bN ?_ _ | refine bD ?_ | refine bA ?_ _)); exact BK275.out⟩
            have n2_ : Aside0 ((((w110.setCell ⟨gb294, 0, none⟩ (.int .u64 t291)).setCell ⟨gb294, 1, none⟩ (.int .u64 t292)).setCell ⟨gb294, 2, none⟩ (.int .u64 t293)).heap[gb294]? = some (.cells #[.int .u64 t291, .int .u64 t292, .int .u64 t293] 32 (0, 0))) := ⟨by (with_reducible repeat (first | refine bN ?_ _ | refine bD ?_ | refine bA ?_ _)); refine blk_put (cs := #[.int .u64 t291, .int .u64 t292, .int .u64 0]) ?_ 2 _ rfl; (with_reducible repeat (first | refine bN ?_ _ | refine bD ?_ | refine bA ?_ _)); refine blk_put (cs := #[.int .u64 t291, .int .u64 0, .int .u64 0]) ?_ 1 _ rfl; (with_reducible repeat (first | refine bN ?_ _ | refine bD ?_ | refine bA ?_ _)); refine blk_put (cs := #[.int .u64 0, .int .u64 0, .int .u64 0]) ?_ 0 _ rfl; (with_reducible repeat (first | refine bN ?_ _ | refine bD ?_ | refine bA ?_ _)); exact BK294.out⟩
            have n3_ : Aside0 (Below w.heap.size w (((w110.setCell ⟨gb294, 0, none⟩ (.int .u64 t291)).setCell ⟨gb294, 1, none⟩ (.int .u64 t292)).setCell ⟨gb294, 2, none⟩ (.int .u64 t293))) := ⟨by repeat (first | (with_reducible first | exact HB.out | apply lA | apply lN | apply lD | refine lS ?_ GE274.out | refine lS ?_ GE275.out | refine lS ?_ GE294.out) | exact HB.out)⟩
            (try clear BK274)
            (try clear BK275)
            (try clear BK294)
            (try clear HB)
            generalize (((w110.setCell ⟨gb294, 0, none⟩ (.int .u64 t291)).setCell ⟨gb294, 1, none⟩ (.int .u64 t292)).setCell ⟨gb294, 2, none⟩ (.int .u64 t293)) = w114 at n0_ n1_ n2_ n3_ ⊢
            have BK274 := n0_
            have BK275 := n1_
            have BK294 := n2_
            have HB := n3_
            clear n0_ n1_ n2_ n3_
            replace BK274 := aaM (bD BK274.out)
            replace BK275 := aaM (bD BK275.out)
            replace BK294 := aaM (bD BK294.out)
            replace HB := aaM (lD HB.out)
            refine start_ (n := 10) (S := fun w' => w'.cell? ⟨gb294, 0, none⟩ = some (.int .u64 t291) ∧ w'.cell? ⟨gb294, 1, none⟩ = some (.int .u64 t292) ∧ w'.cell? ⟨gb294, 2, none⟩ = some (.int .u64 t293)) (ds := []) #[false, false, false, false, false, false, false, false, false, false] (by kernel_rfl) rfl rfl ⟨(bC BK294.out 0).trans rfl, (bC BK294.out 1).trans rfl, (bC BK294.out 2).trans rfl⟩ (fun hHeld => ?_); refine with_tabW split_CutM.tab9 split_CutM.bits9 (fun HT_ HW_ => ?_)
            generalize w114.drew = w115 at BK274 BK275 BK294 HB hHeld ⊢
            refine take_ (i := 0) (N := some 83) (v := ?_) (a' := ?_) #[true, false, false, false, false, false, false, false, false, false] rfl rfl (take_ofW HT_.out HW_.out (by kernel_rfl)) (fun _ _ _ h => h) (Or.inl ⟨by rfl, ?_⟩) hHeld ?_ ?_
            rotate_left
            ·rintro w' ⟨s0, s1, s2⟩
             go_simp
             with_reducible rfl
            rotate_left
            ·simp only [Act.put, ssB, ssZ, ssS, i64_w, i32_w]
             rfl
            refine one_ (i := 1) (N := some 84) #[true, true, false, false, false, false, false, false, false, false] rfl rfl (one_of HT_.out (by kernel_rfl)) (by decide) (fun K hK => ?_)
            refine goes_ Try.func20 (by kernel_rfl) rfl #[.agg #[.int .u64 t291, .int .u64 t292, .int .u64 t293]] (by rfl) rfl rfl (by (try simp only [mmT, mmC, mmN]); first | done | rfl | (simp only [ddD, ddT]; rfl)) ?_
            with_reducible refine (frac_Right.calls t291 t292 t293 true _ A67.out).mono ?_
            rintro e w116 ⟨rfl, hb⟩
            refine ⟨_, rfl, ?_⟩
            replace BK274 := aaM (bX hb BK274.out)
            replace BK275 := aaM (bX hb BK275.out)
            replace BK294 := aaM (bX hb BK294.out)
            replace HB := aaM (lP (by repeat (first | (with_reducible first | exact HB.out | apply lA | apply lN | apply lD | refine lS ?_ GE274.out | refine lS ?_ GE275.out | refine lS ?_ GE294.out) | exact HB.out)) hb)
            (try clear hb)
            (try clear hb2)
            (try clear hk)
            (try clear hi)
            refine hK.out _ _ ⟨(bC BK294.out 0).trans rfl, (bC BK294.out 1).trans rfl, (bC BK294.out 2).trans rfl⟩ (fun hHeld => ?_)
            clear hK K
            refine norm_ (a' := ?_) ?_ ?_
            rotate_left
            ·show Act.put _ (some 84) _ = _
             simp only [Act.put, ssB, ssZ, ssS, i64_w, i32_w]
             rfl
            refine pure_ (i := 2) (N := some 85) (v := ?_) (a' := ?_) #[true, true, true, false, false, false, false, false, false, false] rfl rfl (any_of HT_.out (by kernel_rfl)) (fun _ _ _ h => h) (Or.inl ⟨by rfl, ?_⟩) ?_ ?_
            rotate_left
            ·intro w'
             go_simp
             with_reducible rfl
            rotate_left
            ·simp only [Act.put, ssB, ssZ, ssS, i64_w, i32_w]
             rfl
            refine pure_ (i := 3) (N := some 86) (v := ?_) (a' := ?_) #[true, true, true, true, false, false, false, false, false, false] rfl rfl (any_of HT_.out (by kernel_rfl)) (fun _ _ _ h => h) (Or.inl ⟨by rfl, ?_⟩) ?_ ?_
            rotate_left
            ·intro w'
             go_simp
             with_reducible rfl
            rotate_left
            ·simp only [Act.put, ssB, ssZ, ssS, i64_w, i32_w]
             rfl
            refine pure_ (i := 5) (N := some 88) (v := ?_) (a' := ?_) #[true, true, true, true, false, true, false, false, false, false] rfl rfl (any_of HT_.out (by kernel_rfl)) (fun _ _ _ h => h) (Or.inl ⟨by rfl, ?_⟩) ?_ ?_
            rotate_left
            ·intro w'
             go_simp
             with_reducible rfl
            rotate_left
            ·simp only [Act.put, ssB, ssZ, ssS, i64_w, i32_w]
             rfl
            refine take_ (i := 4) (N := some 87) (v := ?_) (a' := ?_) #[true, true, true, true, true, true, false, false, false, false] rfl rfl (take_ofW HT_.out HW_.out (by kernel_rfl)) (fun _ _ _ h => h) (Or.inl ⟨by rfl, ?_⟩) hHeld ?_ ?_
            rotate_left
            ·rintro w' ⟨s0, s1, s2⟩
             go_simp
             with_reducible rfl
            rotate_left
            ·simp only [Act.put, ssB, ssZ, ssS, i64_w, i32_w]
             rfl
            refine one_ (i := 6) (N := some 89) #[true, true, true, true, true, true, true, false, false, false] rfl rfl (one_of HT_.out (by kernel_rfl)) (by decide) (fun K hK => ?_)
            refine goesI_ (T := 83) Try.func91 (by kernel_rfl) rfl #[] #[.agg #[.int .i64 t277, .int .i64 t278, .int .i64 t279]] rfl (split_CutM.malone _ _) (by rfl) rfl rfl rfl (by simp) ?_
            with_reducible refine (split_means_alone.calls k t277 t278 t279 t296 t297 t298 _ A69.out).mono ?_
            rintro e w117 ⟨rfl, hb⟩
            refine ⟨_, rfl, ?_⟩
            replace BK274 := aaM (bX hb BK274.out)
            replace BK275 := aaM (bX hb BK275.out)
            replace BK294 := aaM (bX hb BK294.out)
            replace HB := aaM (lP (by repeat (first | (with_reducible first | exact HB.out | apply lA | apply lN | apply lD | refine lS ?_ GE274.out | refine lS ?_ GE275.out | refine lS ?_ GE294.out) | exact HB.out)) hb)
            (try clear hb)
            (try clear hb2)
            (try clear hk)
            (try clear hi)
            refine hK.out _ _ ⟨(bC BK294.out 0).trans rfl, (bC BK294.out 1).trans rfl, (bC BK294.out 2).trans rfl⟩ (fun hHeld => ?_)
            clear hK K
            refine norm_ (a' := ?_) ?_ ?_
            rotate_left
            ·show Act.put _ (some 89) _ = _
             simp only [Act.put, ssB, ssZ, ssS, i64_w, i32_w]
             rfl
            refine one_ (i := 7) (N := some 90) #[true, true, true, true, true, true, true, true, false, false] rfl rfl (one_of HT_.out (by kernel_rfl)) (by decide) (fun K hK => ?_)
            refine goes_ Try.func21 (by kernel_rfl) rfl #[.agg #[.int .u64 t291, .int .u64 t292, .int .u64 t293], .agg #[.int .u64 t296, .int .u64 t297, .int .u64 t298]] (by rfl) rfl rfl (by (try simp only [mmT, mmC, mmN]); first | done | rfl | (simp only [ddD, ddT]; rfl)) ?_
            with_reducible refine (frac_Cmp.calls k t291 t292 t293 t296 t297 t298 t299 _ A70.out).mono ?_
            rintro e w118 ⟨rfl, hb⟩
            refine ⟨_, rfl, ?_⟩
            replace BK274 := aaM (bX hb BK274.out)
            replace BK275 := aaM (bX hb BK275.out)
            replace BK294 := aaM (bX hb BK294.out)
            replace HB := aaM (lP (by repeat (first | (with_reducible first | exact HB.out | apply lA | apply lN | apply lD | refine lS ?_ GE274.out | refine lS ?_ GE275.out | refine lS ?_ GE294.out) | exact HB.out)) hb)
            (try clear hb)
            (try clear hb2)
            (try clear hk)
            (try clear hi)
            refine hK.out _ _ ⟨(bC BK294.out 0).trans rfl, (bC BK294.out 1).trans rfl, (bC BK294.out 2).trans rfl⟩ (fun hHeld => ?_)
            clear hK K
            refine norm_ (a' := ?_) ?_ ?_
            rotate_left
            ·show Act.put _ (some 90) _ = _
             simp only [Act.put, ssB, ssZ, ssS, i64_w, i32_w]
             rfl
            refine pure_ (i := 8) (N := some 91) (v := ?_) (a' := ?_) #[true, true, true, true, true, true, true, true, true, false] rfl rfl (any_of HT_.out (by kernel_rfl)) (fun _ _ _ h => h) (Or.inl ⟨by rfl, ?_⟩) ?_ ?_
            rotate_left
            ·intro w'
             go_simp
             with_reducible rfl
            rotate_left
            ·simp only [Act.put, ssB, ssZ, ssS, i64_w, i32_w]
             rfl
            refine pure_ (i := 9) (N := some 92) (v := ?_) (a' := ?_) #[true, true, true, true, true, true, true, true, true, true] rfl rfl (any_of HT_.out (by kernel_rfl)) (fun _ _ _ h => h) (Or.inl ⟨by rfl, ?_⟩) ?_ ?_
            rotate_left
            ·intro w'
             go_simp
             with_reducible rfl
            rotate_left
            ·simp only [Act.put, ssB, ssZ, ssS, i64_w, i32_w]
             rfl
            refine done_ (done_of HT_.out (by kernel_rfl)) ?_
            obtain ⟨hcz119_0, hcz119_1, hcz119_2, hfz119_0, hfz119_1, hfz119_2⟩ := bE3 BK294.out
            obtain ⟨hcz120_0, hcz120_1, hcz120_2, hfz120_0, hfz120_1, hfz120_2⟩ := bE3 BK275.out
            try go_wp2
            refine bodyPost_ret (results_ct rfl _ _ gb275 32 #[.int .u64 t291, .int .u64 t292, .int .u64 t293] (0, 0) _ rfl (by (with_reducible repeat (first | refine bN ?_ _ | refine bD ?_ | refine bA ?_ _)); refine blk_put (cs := #[.int .u64 t291, .int .u64 t292, .int .u64 0]) ?_ 2 _ rfl; (with_reducible repeat (first | refine bN ?_ _ | refine bD ?_ | refine bA ?_ _)); refine blk_put (cs := #[.int .u64 t291, .int .u64 0, .int .u64 0]) ?_ 1 _ rfl; (with_reducible repeat (first | refine bN ?_ _ | refine bD ?_ | refine bA ?_ _)); refine blk_put (cs := #[.int .u64 0, .int .u64 0, .int .u64 0]) ?_ 0 _ rfl; (with_reducible repeat (first | refine bN ?_ _ | refine bD ?_ | refine bA ?_ _)); exact BK275.out) Try.underlying32 rfl (by kernel_rfl)) rfl ?_
            exact ⟨by first | rfl | (simp [errW_none, errW_some] <;> rfl) | (simp [*, errW_none, errW_some] <;> rfl), by repeat (first | (with_reducible first | exact HB.out | apply lA | apply lN | apply lD | refine lS ?_ GE274.out | refine lS ?_ GE275.out | refine lS ?_ GE294.out) | exact HB.out)⟩
          ·replace c68 := Bool.eq_false_iff.mpr c68
           subst c68
           have H1 : (some (0, 0, 0, false)) = some (r1, r2, r3, r4) := by rw [if_neg (show ¬ (false = true) by decide)] at H; exact H
           clear H
           have H := H1
           clear H1
           simp only [Option.some.injEq, Prod.mk.injEq] at H
           obtain ⟨rfl, rfl, rfl, rfl⟩ := H
           skip
           try go_wp2_with (first | (go_at_call 93; (with_reducible refine (split_means_size.calls k t281 t282 t283 t289 _ A35.out).mono ?_); rintro e w132 ⟨rfl, hb⟩; replace BK274 := aaM (bX hb BK274.out); replace BK275 := aaM (bX hb BK275.out); replace HB := aaM (lP (by repeat (first | (with_reducible first | exact HB.out | apply lA | apply lN | apply lD | refine lS ?_ GE274.out | refine lS ?_ GE275.out) | exact HB.out)) hb); (try clear hb); (try clear hb2); (try clear hk); (try clear hi)) | (go_at_call 93; (with_reducible refine (split_means_size.calls k t285 t286 t287 t290 _ A50.out).mono ?_); rintro e w133 ⟨rfl, hb⟩; replace BK274 := aaM (bX hb BK274.out); replace BK275 := aaM (bX hb BK275.out); replace HB := aaM (lP (by repeat (first | (with_reducible first | exact HB.out | apply lA | apply lN | apply lD | refine lS ?_ GE274.out | refine lS ?_ GE275.out) | exact HB.out)) hb); (try clear hb); (try clear hb2); (try clear hk); (try clear hi)) | ((with_reducible refine gate_dst (N := 82) rfl ?_); refine goesIL_ (T := 83) (some 82) rfl rfl Try.func92 (by kernel_rfl) rfl #[.iface 83 (.agg #[.int .i64 t285, .int .i64 t286, .int .i64 t287])] #[.agg #[.int .i64 t281, .int .i64 t282, .int .i64 t283], .iface 83 (.agg #[.int .i64 t285, .int .i64 t286, .int .i64 t287])] rfl (split_CutM.mscore _ _) rfl rfl (by first | rfl | simp [Act.eval]) ?_; (with_reducible refine (split_means_score.calls k t281 t282 t283 t285 t286 t287 t291 t292 t293 _ A66.out).mono ?_); rintro e w134 ⟨rfl, hb⟩; refine ⟨_, rfl, ?_⟩; replace BK274 := aaM (bX hb BK274.out); replace BK275 := aaM (bX hb BK275.out); replace HB := aaM (lP (by repeat (first | (with_reducible first | exact HB.out | apply lA | apply lN | apply lD | refine lS ?_ GE274.out | refine lS ?_ GE275.out) | exact HB.out)) hb); (try clear hb); (try clear hb2); (try clear hk); (try clear hi)) | ((with_reducible refine gate_dst (N := 14) rfl ?_); refine box_event ?hg (N := 14) ?hd (cs := #[.int .u64 0, .int .u64 0, .int .u64 0]) (t := 32) ?hr ?_; (case hd => rfl); (case hg => rfl); (case hr => first | (go_simp; done) | (go_simp; rfl)); intro gb294 hg w135 hbox hb; have hP_ := lQ (by repeat (first | (with_reducible first | exact HB.out | apply lA | apply lN | apply lD | refine lS ?_ GE274.out | refine lS ?_ GE275.out) | exact HB.out)) hb; replace HB := aaM hP_.1; have BK294 := aaM (hbox); have GW294 := aaM (gQ hg hP_.2); have GE294 := aaM (gQ hg hP_.2); have NB274_294 := aaM (nL hg BK274.out); have NB294_274 := aaM (nL hg BK274.out).symm; replace BK274 := aaM (bX hb BK274.out); have NB275_294 := aaM (nL hg BK275.out); have NB294_275 := aaM (nL hg BK275.out).symm; replace BK275 := aaM (bX hb BK275.out); clear hP_ hb hbox hg; have hnb136 := NB294_274.out; have hnc136 := NB274_294.out; have hnb137 := NB294_275.out; have hnc137 := NB275_294.out; obtain ⟨hcz138_0, hcz138_1, hcz138_2, hfz138_0, hfz138_1, hfz138_2⟩ := bE3 BK294.out))
           have n0_ : Aside0 ((((w135.setCell ⟨gb294, 0, none⟩ (.int .u64 t291)).setCell ⟨gb294, 1, none⟩ (.int .u64 t292)).setCell ⟨gb294, 2, none⟩ (.int .u64 t293)).heap[gb274]? = some (.cells #[.int .i64 a0_0, .int .i64 a0_1, .int .i64 a0_2, .slice A0_3 l0_3.length c0_3, .slice A0_4 l0_4.length c0_4] 25 (0, 0))) := ⟨by (with_reducible repeat (first | refine bN ?_ _ | refine bD ?_ | refine bA ?_ _)); refine blk_far ?_ NB274_294.out _; (with_reducible repeat (first | refine bN ?_ _ | refine bD ?_ | refine bA ?_ _)); refine blk_far ?_ NB274_294.out _; (with_reducible repeat (first | refine bN ?_ _ | refine bD ?_ | refine bA ?_ _)); refine blk_far ?_ NB274_294.out _; (with_reducible repeat (first | refine bN ?_ _ | refine bD ?_ | refine bA ?_ _)); exact BK274.out⟩
           have n1_ : Aside0 ((((w135.setCell ⟨gb294, 0, none⟩ (.int .u64 t291)).setCell ⟨gb294, 1, none⟩ (.int .u64 t292)).setCell ⟨gb294, 2, none⟩ (.int .u64 t293)).heap[gb275]? = some (.cells #[.int .u64 0, .int .u64 0, .int .u64 0] 32 (0, 0))) := ⟨by (with_reducible repeat (first | refine bN ?_ _ | refine bD ?_ | refine bA ?_ _)); refine blk_far ?_ NB275_294.out _; (with_reducible repeat (first | refine bN ?_ _ | refine bD ?_ | refine bA ?_ _)); refine blk_far ?_ NB275_294.out _; (with_reducible repeat (first | refine bN ?_ _ | refine bD ?_ | refine bA ?_ _)); refine blk_far ?_ NB275_294.out _; (with_reducible repeat (first | refine bN ?_ _ | refine bD ?_ | refine bA ?_ _)); exact BK275.out⟩
           have n2_ : Aside0 ((((w135.setCell ⟨gb294, 0, none⟩ (.int .u64 t291)).setCell ⟨gb294, 1, none⟩ (.int .u64 t292)).setCell ⟨gb294, 2, none⟩ (.int .u64 t293)).heap[gb294]? = some (.cells #[.int .u64 t291, .int .u64 t292, .int .u64 t293] 32 (0, 0))) := ⟨by (with_reducible repeat (first | refine bN ?_ _ | refine bD ?_ | refine bA ?_ _)); refine blk_put (cs := #[.int .u64 t291, .int .u64 t292, .int .u64 0]) ?_ 2 _ rfl; (with_reducible repeat (first | refine bN ?_ _ | refine bD ?_ | refine bA ?_ _)); refine blk_put (cs := #[.int .u64 t291, .int .u64 0, .int .u64 0]) ?_ 1 _ rfl; (with_reducible repeat (first | refine bN ?_ _ | refine bD ?_ | refine bA ?_ _)); refine blk_put (cs := #[.int .u64 0, .int .u64 0, .int .u64 0]) ?_ 0 _ rfl; (with_reducible repeat (first | refine bN ?_ _ | refine bD ?_ | refine bA ?_ _)); exact BK294.out⟩
           have n3_ : Aside0 (Below w.heap.size w (((w135.setCell ⟨gb294, 0, none⟩ (.int .u64 t291)).setCell ⟨gb294, 1, none⟩ (.int .u64 t292)).setCell ⟨gb294, 2, none⟩ (.int .u64 t293))) := ⟨by repeat (first | (with_reducible first | exact HB.out | apply lA | apply lN | apply lD | refine lS ?_ GE274.out | refine lS ?_ GE275.out | refine lS ?_ GE294.out) | exact HB.out)⟩
           (try clear BK274)
           (try clear BK275)
           (try clear BK294)
           (try clear HB)
           generalize (((w135.setCell ⟨gb294, 0, none⟩ (.int .u64 t291)).setCell ⟨gb294, 1, none⟩ (.int .u64 t292)).setCell ⟨gb294, 2, none⟩ (.int .u64 t293)) = w139 at n0_ n1_ n2_ n3_ ⊢
           have BK274 := n0_
           have BK275 := n1_
           have BK294 := n2_
           have HB := n3_
           clear n0_ n1_ n2_ n3_
           replace BK274 := aaM (bD BK274.out)
           replace BK275 := aaM (bD BK275.out)
           replace BK294 := aaM (bD BK294.out)
           replace HB := aaM (lD HB.out)
           refine start_ (n := 10) (S := fun w' => w'.cell? ⟨gb294, 0, none⟩ = some (.int .u64 t291) ∧ w'.cell? ⟨gb294, 1, none⟩ = some (.int .u64 t292) ∧ w'.cell? ⟨gb294, 2, none⟩ = some (.int .u64 t293)) (ds := []) #[false, false, false, false, false, false, false, false, false, false] (by kernel_rfl) rfl rfl ⟨(bC BK294.out 0).trans rfl, (bC BK294.out 1).trans rfl, (bC BK294.out 2).trans rfl⟩ (fun hHeld => ?_); refine with_tabW split_CutM.tab9 split_CutM.bits9 (fun HT_ HW_ => ?_)
           generalize w139.drew = w140 at BK274 BK275 BK294 HB hHeld ⊢
           refine take_ (i := 0) (N := some 83) (v := ?_) (a' := ?_) #[true, false, false, false, false, false, false, false, false, false] rfl rfl (take_ofW HT_.out HW_.out (by kernel_rfl)) (fun _ _ _ h => h) (Or.inl ⟨by rfl, ?_⟩) hHeld ?_ ?_
           rotate_left
           ·rintro w' ⟨s0, s1, s2⟩
            go_simp
            with_reducible rfl
           rotate_left
           ·simp only [Act.put, ssB, ssZ, ssS, i64_w, i32_w]
            rfl
           refine one_ (i := 1) (N := some 84) #[true, true, false, false, false, false, false, false, false, false] rfl rfl (one_of HT_.out (by kernel_rfl)) (by decide) (fun K hK => ?_)
           refine goes_ Try.func20 (by kernel_rfl) rfl #[.agg #[.int .u64 t291, .int .u64 t292, .int .u64 t293]] (by rfl) rfl rfl (by (try simp only [mmT, mmC, mmN]); first | done | rfl | (simp only [ddD, ddT]; rfl)) ?_
           with_reducible refine (frac_Right.calls t291 t292 t293 false _ A67.out).mono ?_
           rintro e w141 ⟨rfl, hb⟩
           refine ⟨_, rfl, ?_⟩
           replace BK274 := aaM (bX hb BK274.out)
           replace BK275 := aaM (bX hb BK275.out)
           replace BK294 := aaM (bX hb BK294.out)
           replace HB := aaM (lP (by repeat (first | (with_reducible first | exact HB.out | apply lA | apply lN | apply lD | refine lS ?_ GE274.out | refine lS ?_ GE275.out | refine lS ?_ GE294.out) | exact HB.out)) hb)
           (try clear hb)
           (try clear hb2)
           (try clear hk)
           (try clear hi)
           refine hK.out _ _ ⟨(bC BK294.out 0).trans rfl, (bC BK294.out 1).trans rfl, (bC BK294.out 2).trans rfl⟩ (fun hHeld => ?_)
           clear hK K
           refine norm_ (a' := ?_) ?_ ?_
           rotate_left
           ·show Act.put _ (some 84) _ = _
            simp only [Act.put, ssB, ssZ, ssS, i64_w, i32_w]
            rfl
           refine pure_ (i := 2) (N := some 85) (v := ?_) (a' := ?_) #[true, true, true, false, false, false, false, false, false, false] rfl rfl (any_of HT_.out (by kernel_rfl)) (fun _ _ _ h => h) (Or.inl ⟨by rfl, ?_⟩) ?_ ?_
           rotate_left
           ·intro w'
            go_simp
            with_reducible rfl
           rotate_left
           ·simp only [Act.put, ssB, ssZ, ssS, i64_w, i32_w]
            rfl
           refine pure_ (i := 3) (N := some 86) (v := ?_) (a' := ?_) #[true, true, true, true, false, false, false, false, false, false] rfl rfl (any_of HT_.out (by kernel_rfl)) (fun _ _ _ h => h) (Or.inl ⟨by rfl, ?_⟩) ?_ ?_
           rotate_left
           ·intro w'
            go_simp
            with_reducible rfl
           rotate_left
           ·simp only [Act.put, ssB, ssZ, ssS, i64_w, i32_w]
            rfl
           refine pure_ (i := 4) (N := some 87) (v := undef) (a' := ?_) #[true, true, true, true, true, false, false, false, false, false] rfl rfl (any_of HT_.out (by kernel_rfl)) (fun _ _ _ h => h) (Or.inr ⟨by rfl, rfl⟩) ?_ ?_
           rotate_left
           ·simp only [Act.put, ssB, ssZ, ssS, i64_w, i32_w]
            rfl
           refine pure_ (i := 5) (N := some 88) (v := undef) (a' := ?_) #[true, true, true, true, true, true, false, false, false, false] rfl rfl (any_of HT_.out (by kernel_rfl)) (fun _ _ _ h => h) (Or.inr ⟨by rfl, rfl⟩) ?_ ?_
           rotate_left
           ·simp only [Act.put, ssB, ssZ, ssS, i64_w, i32_w]
            rfl
           refine pure_ (i := 6) (N := some 89) (v := undef) (a' := ?_) #[true, true, true, true, true, true, true, false, false, false] rfl rfl (any_of HT_.out (by kernel_rfl)) (fun _ _ _ h => h) (Or.inr ⟨by rfl, rfl⟩) ?_ ?_
           rotate_left
           ·simp only [Act.put, ssB, ssZ, ssS, i64_w, i32_w]
            rfl
           refine pure_ (i := 7) (N := some 90) (v := undef) (a' := ?_) #[true, true, true, true, true, true, true, true, false, false] rfl rfl (any_of HT_.out (by kernel_rfl)) (fun _ _ _ h => h) (Or.inr ⟨by rfl, rfl⟩) ?_ ?_
           rotate_left
           ·simp only [Act.put, ssB, ssZ, ssS, i64_w, i32_w]
            rfl
           refine pure_ (i := 8) (N := some 91) (v := undef) (a' := ?_) #[true, true, true, true, true, true, true, true, true, false] rfl rfl (any_of HT_.out (by kernel_rfl)) (fun _ _ _ h => h) (Or.inr ⟨by rfl, rfl⟩) ?_ ?_
           rotate_left
           ·simp only [Act.put, ssB, ssZ, ssS, i64_w, i32_w]
            rfl
           refine pure_ (i := 9) (N := some 92) (v := ?_) (a' := ?_) #[true, true, true, true, true, true, true, true, true, true] rfl rfl (any_of HT_.out (by kernel_rfl)) (fun _ _ _ h => h) (Or.inl ⟨by rfl, ?_⟩) ?_ ?_
           rotate_left
           ·intro w'
            go_simp
            with_reducible rfl
           rotate_left
           ·simp only [Act.put, ssB, ssZ, ssS, i64_w, i32_w]
            rfl
           refine done_ (done_of HT_.out (by kernel_rfl)) ?_
           obtain ⟨hcz142_0, hcz142_1, hcz142_2, hfz142_0, hfz142_1, hfz142_2⟩ := bE3 BK275.out
           try go_wp2
           refine bodyPost_ret (results_ct rfl _ _ gb275 32 #[.int .u64 0, .int .u64 0, .int .u64 0] (0, 0) _ rfl (by (with_reducible repeat (first | refine bN ?_ _ | refine bD ?_ | refine bA ?_ _)); refine blk_put (cs := #[.int .u64 0, .int .u64 0, .int .u64 0]) ?_ 2 _ rfl; (with_reducible repeat (first | refine bN ?_ _ | refine bD ?_ | refine bA ?_ _)); refine blk_put (cs := #[.int .u64 0, .int .u64 0, .int .u64 0]) ?_ 1 _ rfl; (with_reducible repeat (first | refine bN ?_ _ | refine bD ?_ | refine bA ?_ _)); refine blk_put (cs := #[.int .u64 0, .int .u64 0, .int .u64 0]) ?_ 0 _ rfl; (with_reducible repeat (first | refine bN ?_ _ | refine bD ?_ | refine bA ?_ _)); exact BK275.out) Try.underlying32 rfl (by kernel_rfl)) rfl ?_
           exact ⟨by first | rfl | (simp [errW_none, errW_some] <;> rfl) | (simp [*, errW_none, errW_some] <;> rfl), by repeat (first | (with_reducible first | exact HB.out | apply lA | apply lN | apply lD | refine lS ?_ GE274.out | refine lS ?_ GE275.out | refine lS ?_ GE294.out) | exact HB.out)⟩
       ·replace c34 := Bool.eq_false_iff.mpr c34
        subst c34
        have H1 : (some (0, 0, 0, false)) = some (r1, r2, r3, r4) := by rw [if_neg (show ¬ (false = true) by decide)] at H; exact H
        clear H
        have H := H1
        clear H1
        simp only [Option.some.injEq, Prod.mk.injEq] at H
        obtain ⟨rfl, rfl, rfl, rfl⟩ := H
        obtain ⟨hcz154_0, hcz154_1, hcz154_2, hfz154_0, hfz154_1, hfz154_2⟩ := bE3 BK275.out
        go_wp2
        refine bodyPost_ret (results_ct rfl _ _ gb275 32 #[.int .u64 0, .int .u64 0, .int .u64 0] (0, 0) _ rfl (by (with_reducible repeat (first | refine bN ?_ _ | refine bD ?_ | refine bA ?_ _)); refine blk_put (cs := #[.int .u64 0, .int .u64 0, .int .u64 0]) ?_ 2 _ rfl; (with_reducible repeat (first | refine bN ?_ _ | refine bD ?_ | refine bA ?_ _)); refine blk_put (cs := #[.int .u64 0, .int .u64 0, .int .u64 0]) ?_ 1 _ rfl; (with_reducible repeat (first | refine bN ?_ _ | refine bD ?_ | refine bA ?_ _)); refine blk_put (cs := #[.int .u64 0, .int .u64 0, .int .u64 0]) ?_ 0 _ rfl; (with_reducible repeat (first | refine bN ?_ _ | refine bD ?_ | refine bA ?_ _)); exact BK275.out) Try.underlying32 rfl (by kernel_rfl)) rfl ?_
        exact ⟨by first | rfl | (simp [errW_none, errW_some] <;> rfl) | (simp [*, errW_none, errW_some] <;> rfl), by repeat (first | (with_reducible first | exact HB.out | apply lA | apply lN | apply lD | refine lS ?_ GE274.out | refine lS ?_ GE275.out) | exact HB.out)⟩
      ·replace c33 := Bool.eq_false_iff.mpr c33
       subst c33
       have H1 : (some (0, 0, 0, false)) = some (r1, r2, r3, r4) := by rw [if_neg (show ¬ (false = true) by decide)] at H; exact H
       clear H
       have H := H1
       clear H1
       simp only [Option.some.injEq, Prod.mk.injEq] at H
       obtain ⟨rfl, rfl, rfl, rfl⟩ := H
       obtain ⟨hcz166_0, hcz166_1, hcz166_2, hfz166_0, hfz166_1, hfz166_2⟩ := bE3 BK275.out
       go_wp2
       refine bodyPost_ret (results_ct rfl _ _ gb275 32 #[.int .u64 0, .int .u64 0, .int .u64 0] (0, 0) _ rfl (by (with_reducible repeat (first | refine bN ?_ _ | refine bD ?_ | refine bA ?_ _)); refine blk_put (cs := #[.int .u64 0, .int .u64 0, .int .u64 0]) ?_ 2 _ rfl; (with_reducible repeat (first | refine bN ?_ _ | refine bD ?_ | refine bA ?_ _)); refine blk_put (cs := #[.int .u64 0, .int .u64 0, .int .u64 0]) ?_ 1 _ rfl; (with_reducible repeat (first | refine bN ?_ _ | refine bD ?_ | refine bA ?_ _)); refine blk_put (cs := #[.int .u64 0, .int .u64 0, .int .u64 0]) ?_ 0 _ rfl; (with_reducible repeat (first | refine bN ?_ _ | refine bD ?_ | refine bA ?_ _)); exact BK275.out) Try.underlying32 rfl (by kernel_rfl)) rfl ?_
       exact ⟨by first | rfl | (simp [errW_none, errW_some] <;> rfl) | (simp [*, errW_none, errW_some] <;> rfl), by repeat (first | (with_reducible first | exact HB.out | apply lA | apply lN | apply lD | refine lS ?_ GE274.out | refine lS ?_ GE275.out) | exact HB.out)⟩
     ·replace c32 := Bool.eq_false_iff.mpr c32
      subst c32
      have H1 : (some (0, 0, 0, false)) = some (r1, r2, r3, r4) := by rw [if_neg (show ¬ (false = true) by decide)] at H; exact H
      clear H
      have H := H1
      clear H1
      simp only [Option.some.injEq, Prod.mk.injEq] at H
      obtain ⟨rfl, rfl, rfl, rfl⟩ := H
      obtain ⟨hcz178_0, hcz178_1, hcz178_2, hfz178_0, hfz178_1, hfz178_2⟩ := bE3 BK275.out
      go_wp2
      refine bodyPost_ret (results_ct rfl _ _ gb275 32 #[.int .u64 0, .int .u64 0, .int .u64 0] (0, 0) _ rfl (by (with_reducible repeat (first | refine bN ?_ _ | refine bD ?_ | refine bA ?_ _)); refine blk_put (cs := #[.int .u64 0, .int .u64 0, .int .u64 0]) ?_ 2 _ rfl; (with_reducible repeat (first | refine bN ?_ _ | refine bD ?_ | refine bA ?_ _)); refine blk_put (cs := #[.int .u64 0, .int .u64 0, .int .u64 0]) ?_ 1 _ rfl; (with_reducible repeat (first | refine bN ?_ _ | refine bD ?_ | refine bA ?_ _)); refine blk_put (cs := #[.int .u64 0, .int .u64 0, .int .u64 0]) ?_ 0 _ rfl; (with_reducible repeat (first | refine bN ?_ _ | refine bD ?_ | refine bA ?_ _)); exact BK275.out) Try.underlying32 rfl (by kernel_rfl)) rfl ?_
      exact ⟨by first | rfl | (simp [errW_none, errW_some] <;> rfl) | (simp [*, errW_none, errW_some] <;> rfl), by repeat (first | (with_reducible first | exact HB.out | apply lA | apply lN | apply lD | refine lS ?_ GE274.out | refine lS ?_ GE275.out) | exact HB.out)⟩
 ·replace c5 := Bool.eq_false_iff.mpr c5
  subst c5
  have H1 : (some (0, 0, 0, false)) = some (r1, r2, r3, r4) := by rw [if_neg (show ¬ (false = true) by decide)] at H; exact H
  clear H
  have H := H1
  clear H1
  simp only [Option.some.injEq, Prod.mk.injEq] at H
  obtain ⟨rfl, rfl, rfl, rfl⟩ := H
  go_enter Try.func10, Try.ntmps10
  go_wp2_with (first | ((with_reducible refine gate_dst (N := 3) rfl ?_); refine box_event ?hg (N := 3) ?hd (cs := #[.int .i64 a0_0, .int .i64 a0_1, .int .i64 a0_2, .slice A0_3 l0_3.length c0_3, .slice A0_4 l0_4.length c0_4]) (t := 25) ?hr ?_; (case hd => rfl); (case hg => rfl); (case hr => first | (go_simp; done) | (go_simp; rfl)); intro gb274 hg w179 hbox hb; have hP_ := lQ (by repeat (first | (with_reducible first | exact HB.out | apply lA | apply lN | apply lD) | exact HB.out)) hb; replace HB := aaM hP_.1; have BK274 := aaM (hbox); have GW274 := aaM (gQ hg hP_.2); have GE274 := aaM (gQ hg hP_.2); clear hP_ hb hbox hg) | ((with_reducible refine gate_dst (N := 6) rfl ?_); refine box_event ?hg (N := 6) ?hd (cs := #[.int .u64 0, .int .u64 0, .int .u64 0]) (t := 32) ?hr ?_; (case hd => rfl); (case hg => rfl); (case hr => first | (go_simp; done) | (go_simp; rfl)); intro gb275 hg w180 hbox hb; have hP_ := lQ (by repeat (first | (with_reducible first | exact HB.out | apply lA | apply lN | apply lD | refine lS ?_ GE274.out) | exact HB.out)) hb; replace HB := aaM hP_.1; have BK275 := aaM (hbox); have GW275 := aaM (gQ hg hP_.2); have GE275 := aaM (gQ hg hP_.2); have NB274_275 := aaM (nL hg BK274.out); have NB275_274 := aaM (nL hg BK274.out).symm; replace BK274 := aaM (bX hb BK274.out); clear hP_ hb hbox hg; have hnb181 := NB274_275.out; have hnc181 := NB275_274.out; obtain ⟨hcz182_0, hcz182_1, hcz182_2, hcz182_3, hcz182_4, hfz182_0, hfz182_1, hfz182_2, hfz182_3, hfz182_4⟩ := bE5 BK274.out) | ((with_reducible refine gate_callee (f := 18) rfl ?_); refine goesL_ (some 16) rfl rfl Try.func18 (by kernel_rfl) rfl #[.agg #[.int .i64 a0_0, .int .i64 a0_1, .int .i64 a0_2, .slice A0_3 l0_3.length c0_3, .slice A0_4 l0_4.length c0_4]] rfl (by (try simp only [mmT, mmC, mmN]); first | done | rfl | (simp only [ddD, ddT]; rfl)) ?_; (with_reducible refine (hist_Right.calls a0_0 a0_1 a0_2 _ _ l0_3 _ _ l0_4 false _ ?side1 ?side2 ?side3 ?side4 A4.out).mono ?_); (case side1 => repeat (first | exact (ccB HR0_3.out HB.out) | (with_reducible refine ccA ?_ _) | (with_reducible refine ccN ?_ _) | (with_reducible refine ccD ?_))); (case side2 => exact HC0_3.out); (case side3 => repeat (first | exact (ccB HR0_4.out HB.out) | (with_reducible refine ccA ?_ _) | (with_reducible refine ccN ?_ _) | (with_reducible refine ccD ?_))); (case side4 => exact HC0_4.out); rintro e w183 ⟨rfl, hb⟩; refine ⟨_, rfl, ?_⟩; replace BK274 := aaM (bX hb BK274.out); replace BK275 := aaM (bX hb BK275.out); replace HB := aaM (lP (by repeat (first | (with_reducible first | exact HB.out | apply lA | apply lN | apply lD | refine lS ?_ GE274.out | refine lS ?_ GE275.out) | exact HB.out)) hb); (try clear hb); (try clear hb2); (try clear hk); (try clear hi); obtain ⟨hcz184_0, hcz184_1, hcz184_2, hfz184_0, hfz184_1, hfz184_2⟩ := bE3 BK275.out))
  refine bodyPost_ret (results_ct rfl _ _ gb275 32 #[.int .u64 0, .int .u64 0, .int .u64 0] (0, 0) _ rfl (by (with_reducible repeat (first | refine bN ?_ _ | refine bD ?_ | refine bA ?_ _)); refine blk_put (cs := #[.int .u64 0, .int .u64 0, .int .u64 0]) ?_ 2 _ rfl; (with_reducible repeat (first | refine bN ?_ _ | refine bD ?_ | refine bA ?_ _)); refine blk_put (cs := #[.int .u64 0, .int .u64 0, .int .u64 0]) ?_ 1 _ rfl; (with_reducible repeat (first | refine bN ?_ _ | refine bD ?_ | refine bA ?_ _)); refine blk_put (cs := #[.int .u64 0, .int .u64 0, .int .u64 0]) ?_ 0 _ rfl; (with_reducible repeat (first | refine bN ?_ _ | refine bD ?_ | refine bA ?_ _)); exact BK275.out) Try.underlying32 rfl (by kernel_rfl)) rfl ?_
  exact ⟨by first | rfl | (simp [errW_none, errW_some] <;> rfl) | (simp [*, errW_none, errW_some] <;> rfl), by repeat (first | (with_reducible first | exact HB.out | apply lA | apply lN | apply lD | refine lS ?_ GE274.out | refine lS ?_ GE275.out) | exact HB.out)⟩


/-! ### split_Cut: function 10 -/
def split_Cut.f (k : Nat) (a0_0 : Int) (a0_1 : Int) (a0_2 : Int) (l0_3 : List Int) (l0_4 : List (S54)) (a1 : Int) (a2 : Int) : Option (Int × Int × Int × Bool) := if a0_0 = 0 then split_CutC.f k a0_0 a0_1 a0_2 l0_3 l0_4 a1 a2 else split_CutM.f k a0_0 a0_1 a0_2 l0_3 l0_4 a1 a2
theorem split_Cut.mono : ∀ a0 a1 a2 a3 a4 a5 a6 k, LeO (split_Cut.f k a0 a1 a2 a3 a4 a5 a6) (split_Cut.f (k + 1) a0 a1 a2 a3 a4 a5 a6) := by
 intro a0 a1 a2 a3 a4 a5 a6 k
 unfold split_Cut.f
 exact LeO.ite (split_CutC.mono _ _ _ _ _ _ _ _) (split_CutM.mono _ _ _ _ _ _ _ _)
theorem split_Cut.calls (k : Nat) (a0_0 : Int) (a0_1 : Int) (a0_2 : Int) (A0_3 : Option Addr) (c0_3 : Nat) (l0_3 : List Int) (A0_4 : Option Addr) (c0_4 : Nat) (l0_4 : List (S54)) (a1 : Int) (a2 : Int) (r1 : Int) (r2 : Int) (r3 : Int) (r4 : Bool) (w : World) (hr0_3 : Kd.C (Kd.int .i64) w A0_3 l0_3.length l0_3) (hc0_3 : l0_3.length ≤ c0_3) (hr0_4 : Kd.C k54 w A0_4 l0_4.length l0_4) (hc0_4 : l0_4.length ≤ c0_4) (h : split_Cut.f k a0_0 a0_1 a0_2 l0_3 l0_4 a1 a2 = some (r1, r2, r3, r4)) :
  Calls Try.prog 10 #[.agg #[.int .i64 a0_0, .int .i64 a0_1, .int .i64 a0_2, .slice A0_3 l0_3.length c0_3, .slice A0_4 l0_4.length c0_4], .int .i64 a1, .int .i64 a2] w fun e w' => e = .returned (.tuple #[.agg #[.int .u64 r1, .int .u64 r2, .int .u64 r3], .bool r4]) ∧ Below w.heap.size w w' := by
 unfold split_Cut.f at h
 by_cases h0 : a0_0 = 0
 ·rw [if_pos h0] at h
  exact split_CutC.calls k a0_0 a0_1 a0_2 A0_3 c0_3 l0_3 A0_4 c0_4 l0_4 a1 a2 r1 r2 r3 r4 w hr0_3 hc0_3 hr0_4 hc0_4 h0 h
 ·rw [if_neg h0] at h
  exact split_CutM.calls k a0_0 a0_1 a0_2 A0_3 c0_3 l0_3 A0_4 c0_4 l0_4 a1 a2 r1 r2 r3 r4 w hr0_3 hc0_3 hr0_4 hc0_4 h0 h


end Go.Proofs.Ytancajnbjmcamaa.QSplitLeaf
