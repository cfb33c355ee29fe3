-- Written by a program of this session (wip/tools/mkprint.py over the kit's print); Lean checks it.
import Derived.Test.YtancajnbjmcamaaQSplitLeafx0
import Derived.Test.YtancajnbjmcamaaQSplitLeafx4
import Derived.Test.YtancajnbjmcamaaQSplitLeafx5
import Derived.Test.YtancajnbjmcamaaQSplitLeafx8
import Derived.Test.YtancajnbjmcamaaQSplitLeafx9
import Derived.Test.YtancajnbjmcamaaQSplitLeafx11
namespace Go.Proofs.Ytancajnbjmcamaa.QSplitLeaf
open Go.RowKit Go.Proofs.YtancajnbjmcamaaW.PrintWords Go.Proofs.YtancajnbjmcamaaW.PrintLast Go.Proofs.YtancajnbjmcamaaW.PrintMore
attribute [local go_sem] max2_int min2_int max_two min_two max_three min_three max_four min_four   -- for this text's walks alone
set_option linter.unusedVariables false
set_option linter.unusedSimpArgs false

/-! ### a part of split_Cut -/
theorem split_means_score.ta (v : Value) (w : World) : (Instr.typeAssert (.iface 83 v) 58 83 true).run Try.prog w = .ok (.tuple #[v, .bool true]) w := by kernel_rfl
attribute [local go_sem] split_means_score.ta
def split_means_score.f (k : Nat) (a0_0 : Int) (a0_1 : Int) (a0_2 : Int) (a1_0 : Int) (a1_1 : Int) (a1_2 : Int) : Option (Int × Int × Int) := (spread_Score.f k a0_0 a0_1 a0_2 a1_0 a1_1 a1_2).bind fun bt229 => (some (bt229.1, bt229.2.1, bt229.2.2))
theorem split_means_score.mono : ∀ a0 a1 a2 a3 a4 a5 k, LeO (split_means_score.f k a0 a1 a2 a3 a4 a5) (split_means_score.f (k + 1) a0 a1 a2 a3 a4 a5) := by
 intro a0 a1 a2 a3 a4 a5 k
 unfold split_means_score.f
 repeat' first
   | (with_reducible exact spread_Score.mono _ _ _ _ _ _ _)
   | (with_reducible exact LeO.refl _)
   | (with_reducible exact LeO.none _)
   | (with_reducible refine LeO.ite ?_ ?_)
   | (with_reducible refine LeO.bind ?_ (fun _ => ?_))
   | exact spread_Score.mono _ _ _ _ _ _ _
   | exact LeO.none _
   | refine LeO.ite ?_ ?_
   | refine LeO.bind ?_ (fun _ => ?_)
set_option maxHeartbeats 8000000 in
set_option maxRecDepth 100000 in
theorem split_means_score.calls (k : Nat) (a0_0 : Int) (a0_1 : Int) (a0_2 : Int) (a1_0 : Int) (a1_1 : Int) (a1_2 : Int) (r1 : Int) (r2 : Int) (r3 : Int) (w : World) (h : split_means_score.f k a0_0 a0_1 a0_2 a1_0 a1_1 a1_2 = some (r1, r2, r3)) :
  Calls Try.prog 92 #[.agg #[.int .i64 a0_0, .int .i64 a0_1, .int .i64 a0_2], .iface 83 (.agg #[.int .i64 a1_0, .int .i64 a1_1, .int .i64 a1_2])] w fun e w' => e = .returned (.agg #[.int .u64 r1, .int .u64 r2, .int .u64 r3]) ∧ Below w.heap.size w w' := by
 have hu83 := Try.underlying83
 have hu32 := Try.underlying32
 have hu54 := Try.underlying54
 have HB := aaM (Below.refl w.heap.size w)
 have H : ((spread_Score.f k a0_0 a0_1 a0_2 a1_0 a1_1 a1_2).bind fun bt229 => (some (bt229.1, bt229.2.1, bt229.2.2))) = some (r1, r2, r3) := h
 clear h
 replace H := ooB.mp H
 obtain ⟨⟨t229, t230, t231⟩, A30, H⟩ := H
 replace H : (some (t229, t230, t231)) = some (r1, r2, r3) := H
 have A3 := aaM A30
 clear A30
 simp only [Option.some.injEq, Prod.mk.injEq] at H
 obtain ⟨rfl, rfl, rfl⟩ := H
 go_enter Try.func92, Try.ntmps92
 go_wp2_with (first | ((with_reducible refine gate_dst (N := 2) rfl ?_); refine box_event ?hg (N := 2) ?hd (cs := #[.int .i64 a0_0, .int .i64 a0_1, .int .i64 a0_2]) (t := 83) ?hr ?_; (case hd => rfl); (case hg => rfl); (case hr => first | (go_simp; done) | (go_simp; rfl)); intro gb226 hg w4 hbox hb; have hP_ := lQ (by repeat (first | (with_reducible first | exact HB.out | apply lA | apply lN | apply lD) | exact HB.out)) hb; replace HB := aaM hP_.1; have BK226 := aaM (hbox); have GW226 := aaM (gQ hg hP_.2); have GE226 := aaM (gQ hg hP_.2); clear hP_ hb hbox hg) | ((with_reducible refine gate_dst (N := 4) rfl ?_); refine box_event ?hg (N := 4) ?hd (cs := #[.int .u64 0, .int .u64 0, .int .u64 0]) (t := 32) ?hr ?_; (case hd => rfl); (case hg => rfl); (case hr => first | (go_simp; done) | (go_simp; rfl)); intro gb227 hg w5 hbox hb; have hP_ := lQ (by repeat (first | (with_reducible first | exact HB.out | apply lA | apply lN | apply lD | refine lS ?_ GE226.out) | exact HB.out)) hb; replace HB := aaM hP_.1; have BK227 := aaM (hbox); have GW227 := aaM (gQ hg hP_.2); have GE227 := aaM (gQ hg hP_.2); have NB226_227 := aaM (nL hg BK226.out); have NB227_226 := aaM (nL hg BK226.out).symm; replace BK226 := aaM (bX hb BK226.out); clear hP_ hb hbox hg) | ((with_reducible refine gate_dst (N := 5) rfl ?_); refine box_event ?hg (N := 5) ?hd (cs := #[.int .i64 0, .int .i64 0, .int .i64 0]) (t := 83) ?hr ?_; (case hd => rfl); (case hg => rfl); (case hr => first | (go_simp; done) | (go_simp; rfl)); intro gb228 hg w6 hbox hb; have hP_ := lQ (by repeat (first | (with_reducible first | exact HB.out | apply lA | apply lN | apply lD | refine lS ?_ GE226.out | refine lS ?_ GE227.out) | exact HB.out)) hb; replace HB := aaM hP_.1; have BK228 := aaM (hbox); have GW228 := aaM (gQ hg hP_.2); have GE228 := aaM (gQ hg hP_.2); have NB226_228 := aaM (nL hg BK226.out); have NB228_226 := aaM (nL hg BK226.out).symm; replace BK226 := aaM (bX hb BK226.out); have NB227_228 := aaM (nL hg BK227.out); have NB228_227 := aaM (nL hg BK227.out).symm; replace BK227 := aaM (bX hb BK227.out); clear hP_ hb hbox hg; have hnb7 := NB228_226.out; have hnc7 := NB226_228.out; have hnb8 := NB228_227.out; have hnc8 := NB227_228.out; obtain ⟨hcz9_0, hcz9_1, hcz9_2, hfz9_0, hfz9_1, hfz9_2⟩ := bE3 BK228.out; have hnb10 := NB226_227.out; have hnc10 := NB227_226.out; obtain ⟨hcz11_0, hcz11_1, hcz11_2, hfz11_0, hfz11_1, hfz11_2⟩ := bE3 BK226.out) | ((with_reducible refine gate_callee (f := 95) rfl ?_); refine goesL_ (some 17) rfl rfl Try.func95 (by kernel_rfl) rfl #[.agg #[.int .i64 a0_0, .int .i64 a0_1, .int .i64 a0_2], .agg #[.int .i64 a1_0, .int .i64 a1_1, .int .i64 a1_2]] rfl (by (try simp only [mmT, mmC, mmN]); first | done | rfl | (simp only [ddD, ddT]; rfl)) ?_; (with_reducible refine (spread_Score.calls k a0_0 a0_1 a0_2 a1_0 a1_1 a1_2 t229 t230 t231 _ A3.out).mono ?_); rintro e w12 ⟨rfl, hb⟩; refine ⟨_, rfl, ?_⟩; replace BK226 := aaM (bB (g := gb226) (o := .cells #[.int .i64 a0_0, .int .i64 a0_1, .int .i64 a0_2] 83 (0, 0)) (by (with_reducible repeat (first | refine bN ?_ _ | refine bD ?_ | refine bA ?_ _)); refine blk_far ?_ NB226_228.out _; (with_reducible repeat (first | refine bN ?_ _ | refine bD ?_ | refine bA ?_ _)); refine blk_far ?_ NB226_228.out _; (with_reducible repeat (first | refine bN ?_ _ | refine bD ?_ | refine bA ?_ _)); refine blk_far ?_ NB226_228.out _; (with_reducible repeat (first | refine bN ?_ _ | refine bD ?_ | refine bA ?_ _)); exact BK226.out) hb); replace BK227 := aaM (bB (g := gb227) (o := .cells #[.int .u64 0, .int .u64 0, .int .u64 0] 32 (0, 0)) (by (with_reducible repeat (first | refine bN ?_ _ | refine bD ?_ | refine bA ?_ _)); refine blk_far ?_ NB227_228.out _; (with_reducible repeat (first | refine bN ?_ _ | refine bD ?_ | refine bA ?_ _)); refine blk_far ?_ NB227_228.out _; (with_reducible repeat (first | refine bN ?_ _ | refine bD ?_ | refine bA ?_ _)); refine blk_far ?_ NB227_228.out _; (with_reducible repeat (first | refine bN ?_ _ | refine bD ?_ | refine bA ?_ _)); exact BK227.out) hb); replace BK228 := aaM (bB (g := gb228) (o := .cells #[.int .i64 a1_0, .int .i64 a1_1, .int .i64 a1_2] 83 (0, 0)) (by (with_reducible repeat (first | refine bN ?_ _ | refine bD ?_ | refine bA ?_ _)); refine blk_put (cs := #[.int .i64 a1_0, .int .i64 a1_1, .int .i64 0]) ?_ 2 _ rfl; (with_reducible repeat (first | refine bN ?_ _ | refine bD ?_ | refine bA ?_ _)); refine blk_put (cs := #[.int .i64 a1_0, .int .i64 0, .int .i64 0]) ?_ 1 _ rfl; (with_reducible repeat (first | refine bN ?_ _ | refine bD ?_ | refine bA ?_ _)); refine blk_put (cs := #[.int .i64 0, .int .i64 0, .int .i64 0]) ?_ 0 _ rfl; (with_reducible repeat (first | refine bN ?_ _ | refine bD ?_ | refine bA ?_ _)); exact BK228.out) hb); replace HB := aaM (lP (by repeat (first | (with_reducible first | exact HB.out | apply lA | apply lN | apply lD | refine lS ?_ GE226.out | refine lS ?_ GE227.out | refine lS ?_ GE228.out) | exact HB.out)) hb); (try clear hb); (try clear hb2); (try clear hk); (try clear hi); obtain ⟨hcz13_0, hcz13_1, hcz13_2, hfz13_0, hfz13_1, hfz13_2⟩ := bE3 BK227.out))
 refine bodyPost_ret (results_cell_row rfl _ _ gb227 32 #[.int .u64 t229, .int .u64 t230, .int .u64 t231] (0, 0) _ rfl (by (with_reducible repeat (first | refine bN ?_ _ | refine bD ?_ | refine bA ?_ _)); refine blk_put (cs := #[.int .u64 t229, .int .u64 t230, .int .u64 0]) ?_ 2 _ rfl; (with_reducible repeat (first | refine bN ?_ _ | refine bD ?_ | refine bA ?_ _)); refine blk_put (cs := #[.int .u64 t229, .int .u64 0, .int .u64 0]) ?_ 1 _ rfl; (with_reducible repeat (first | refine bN ?_ _ | refine bD ?_ | refine bA ?_ _)); refine blk_put (cs := #[.int .u64 0, .int .u64 0, .int .u64 0]) ?_ 0 _ rfl; (with_reducible repeat (first | refine bN ?_ _ | refine bD ?_ | refine bA ?_ _)); exact BK227.out) Try.underlying32 rfl (by kernel_rfl)) rfl ?_
 exact ⟨by first | rfl | (simp [errW_none, errW_some] <;> rfl) | (simp [*, errW_none, errW_some] <;> rfl), by repeat (first | (with_reducible first | exact HB.out | apply lA | apply lN | apply lD | refine lS ?_ GE226.out | refine lS ?_ GE227.out | refine lS ?_ GE228.out) | exact HB.out)⟩



/-! ### a part of split_Cut -/
def split_CutC.f (k : Nat) (a0_0 : Int) (a0_1 : Int) (a0_2 : Int) (l0_3 : List Int) (l0_4 : List (S54)) (a1 : Int) (a2 : Int) : Option (Int × Int × Int × Bool) := (hist_Right.f a0_0 a0_1 a0_2 l0_3 l0_4).bind fun t276 => (if t276 = true then (if a1 < 0 then (some (0, 0, 0, false)) else (if a1 ≥ (wrap64 (a0_1 - 1)) then (some (0, 0, 0, false)) else (if a2 < 1 then (some (0, 0, 0, false)) else ((split_binsC.f k a0_0 a0_1 a0_2 l0_3 l0_4 0 a0_1).bind fun bt277 => ((split_binsC.f k a0_0 a0_1 a0_2 l0_3 l0_4 0 (wrap64 (a1 + 1))).bind fun bt281 => ((split_binsC.f k a0_0 a0_1 a0_2 l0_3 l0_4 (wrap64 (a1 + 1)) a0_1).bind fun bt285 => (if bt277.2 = true then (if bt281.2 = true then (if bt285.2 = true then ((split_classes_size.f k bt281.1).bind fun t289 => (if t289 < a2 then (some (0, 0, 0, false)) else ((split_classes_size.f k bt285.1).bind fun t290 => (if t290 < a2 then (some (0, 0, 0, false)) else ((split_classes_score.f k bt281.1 bt285.1).bind fun bt291 => ((frac_Right.f bt291.1 bt291.2.1 bt291.2.2).bind fun t295 => (if t295 = true then ((split_classes_alone.f k bt277.1).bind fun bt296 => ((frac_Cmp.f k bt291.1 bt291.2.1 bt291.2.2 bt296.1 bt296.2.1 bt296.2.2).bind fun t299 => (if t299 ≤ 0 then (some (0, 0, 0, false)) else (some (bt291.1, bt291.2.1, bt291.2.2, true))))) else (some (0, 0, 0, false))))))))) else (some (0, 0, 0, false))) else (some (0, 0, 0, false))) else (some (0, 0, 0, false))))))))) else (some (0, 0, 0, false)))
theorem split_CutC.mono : ∀ a0 a1 a2 a3 a4 a5 a6 k, LeO (split_CutC.f k a0 a1 a2 a3 a4 a5 a6) (split_CutC.f (k + 1) a0 a1 a2 a3 a4 a5 a6) := by
 intro a0 a1 a2 a3 a4 a5 a6 k
 unfold split_CutC.f
 repeat' first
   | (with_reducible exact frac_Cmp.mono _ _ _ _ _ _ _)
   | (with_reducible exact split_binsC.mono _ _ _ _ _ _ _ _)
   | (with_reducible exact split_classes_alone.mono _ _)
   | (with_reducible exact split_classes_score.mono _ _ _)
   | (with_reducible exact split_classes_size.mono _ _)
   | (with_reducible exact LeO.refl _)
   | (with_reducible exact LeO.none _)
   | (with_reducible refine LeO.ite ?_ ?_)
   | (with_reducible refine LeO.bind ?_ (fun _ => ?_))
   | exact frac_Cmp.mono _ _ _ _ _ _ _
   | exact split_binsC.mono _ _ _ _ _ _ _ _
   | exact split_classes_alone.mono _ _
   | exact split_classes_score.mono _ _ _
   | exact split_classes_size.mono _ _
   | exact LeO.none _
   | refine LeO.ite ?_ ?_
   | refine LeO.bind ?_ (fun _ => ?_)
def split_CutC.T9 : Bool × List (List Nat × List Nat) := (true, [([], []), ([0], [0]), ([1], [1]), ([2, 1], [2]), ([3], [3]), ([3], [3]), ([5, 3, 3], [3, 5]), ([4, 6, 6, 3], [3, 4, 6]), ([7, 3], [3, 7]), ([3, 8], [3, 8])])
def split_CutC.B9 : List Nat := [0, 1, 3, 7, 15, 15, 47, 127, 255, 511]
theorem split_CutC.tab9 : rtab .any (opsOf Try.f10 9) = split_CutC.T9 := by kernel_rfl
theorem split_CutC.bits9 : waitsOk split_CutC.T9.2 split_CutC.B9 = true := by kernel_rfl
theorem split_CutC.mscore (v : Value) (w : World) : (method (Try.prog.types.size + Made.depth) 81 v "hornbeam/split.score").run Try.prog w = .ok (79, v) w := by kernel_rfl
theorem split_CutC.malone (v : Value) (w : World) : (method (Try.prog.types.size + Made.depth) 81 v "hornbeam/split.alone").run Try.prog w = .ok (78, v) w := by kernel_rfl
set_option maxHeartbeats 8000000 in
set_option maxRecDepth 100000 in
theorem split_CutC.calls (k : Nat) (a0_0 : Int) (a0_1 : Int) (a0_2 : Int) (A0_3 : Option Addr) (c0_3 : Nat) (l0_3 : List Int) (A0_4 : Option Addr) (c0_4 : Nat) (l0_4 : List (S54)) (a1 : Int) (a2 : Int) (r1 : Int) (r2 : Int) (r3 : Int) (r4 : Bool) (w : World) (hr0_3 : Kd.C (Kd.int .i64) w A0_3 l0_3.length l0_3) (hc0_3 : l0_3.length ≤ c0_3) (hr0_4 : Kd.C k54 w A0_4 l0_4.length l0_4) (hc0_4 : l0_4.length ≤ c0_4) (hk_ : a0_0 = 0) (h : split_CutC.f k a0_0 a0_1 a0_2 l0_3 l0_4 a1 a2 = some (r1, r2, r3, r4)) :
  Calls Try.prog 10 #[.agg #[.int .i64 a0_0, .int .i64 a0_1, .int .i64 a0_2, .slice A0_3 l0_3.length c0_3, .slice A0_4 l0_4.length c0_4], .int .i64 a1, .int .i64 a2] w fun e w' => e = .returned (.tuple #[.agg #[.int .u64 r1, .int .u64 r2, .int .u64 r3], .bool r4]) ∧ Below w.heap.size w w' := by
 have hu25 := Try.underlying25
 have hu32 := Try.underlying32
 have HR0_3 := aaM hr0_3
 have HC0_3 := aaM hc0_3
 clear hr0_3 hc0_3
 have HR0_4 := aaM hr0_4
 have HC0_4 := aaM hc0_4
 clear hr0_4 hc0_4
 have HB := aaM (Below.refl w.heap.size w)
 have HKI := aaM hk_
 clear hk_
 have H : ((hist_Right.f a0_0 a0_1 a0_2 l0_3 l0_4).bind fun t276 => (if t276 = true then (if a1 < 0 then (some (0, 0, 0, false)) else (if a1 ≥ (wrap64 (a0_1 - 1)) then (some (0, 0, 0, false)) else (if a2 < 1 then (some (0, 0, 0, false)) else ((split_binsC.f k a0_0 a0_1 a0_2 l0_3 l0_4 0 a0_1).bind fun bt277 => ((split_binsC.f k a0_0 a0_1 a0_2 l0_3 l0_4 0 (wrap64 (a1 + 1))).bind fun bt281 => ((split_binsC.f k a0_0 a0_1 a0_2 l0_3 l0_4 (wrap64 (a1 + 1)) a0_1).bind fun bt285 => (if bt277.2 = true then (if bt281.2 = true then (if bt285.2 = true then ((split_classes_size.f k bt281.1).bind fun t289 => (if t289 < a2 then (some (0, 0, 0, false)) else ((split_classes_size.f k bt285.1).bind fun t290 => (if t290 < a2 then (some (0, 0, 0, false)) else ((split_classes_score.f k bt281.1 bt285.1).bind fun bt291 => ((frac_Right.f bt291.1 bt291.2.1 bt291.2.2).bind fun t295 => (if t295 = true then ((split_classes_alone.f k bt277.1).bind fun bt296 => ((frac_Cmp.f k bt291.1 bt291.2.1 bt291.2.2 bt296.1 bt296.2.1 bt296.2.2).bind fun t299 => (if t299 ≤ 0 then (some (0, 0, 0, false)) else (some (bt291.1, bt291.2.1, bt291.2.2, true))))) else (some (0, 0, 0, false))))))))) else (some (0, 0, 0, false))) else (some (0, 0, 0, false))) else (some (0, 0, 0, false))))))))) else (some (0, 0, 0, false)))) = some (r1, r2, r3, r4) := h
 clear h
 replace H := ooB.mp H
 obtain ⟨t276, A40, H⟩ := H
 replace H : (if t276 = true then (if a1 < 0 then (some (0, 0, 0, false)) else (if a1 ≥ (wrap64 (a0_1 - 1)) then (some (0, 0, 0, false)) else (if a2 < 1 then (some (0, 0, 0, false)) else ((split_binsC.f k a0_0 a0_1 a0_2 l0_3 l0_4 0 a0_1).bind fun bt277 => ((split_binsC.f k a0_0 a0_1 a0_2 l0_3 l0_4 0 (wrap64 (a1 + 1))).bind fun bt281 => ((split_binsC.f k a0_0 a0_1 a0_2 l0_3 l0_4 (wrap64 (a1 + 1)) a0_1).bind fun bt285 => (if bt277.2 = true then (if bt281.2 = true then (if bt285.2 = true then ((split_classes_size.f k bt281.1).bind fun t289 => (if t289 < a2 then (some (0, 0, 0, false)) else ((split_classes_size.f k bt285.1).bind fun t290 => (if t290 < a2 then (some (0, 0, 0, false)) else ((split_classes_score.f k bt281.1 bt285.1).bind fun bt291 => ((frac_Right.f bt291.1 bt291.2.1 bt291.2.2).bind fun t295 => (if t295 = true then ((split_classes_alone.f k bt277.1).bind fun bt296 => ((frac_Cmp.f k bt291.1 bt291.2.1 bt291.2.2 bt296.1 bt296.2.1 bt296.2.2).bind fun t299 => (if t299 ≤ 0 then (some (0, 0, 0, false)) else (some (bt291.1, bt291.2.1, bt291.2.2, true))))) else (some (0, 0, 0, false))))))))) else (some (0, 0, 0, false))) else (some (0, 0, 0, false))) else (some (0, 0, 0, false))))))))) else (some (0, 0, 0, false))) = some (r1, r2, r3, r4) := H
 have A4 := aaM A40
 clear A40
 by_cases c5 : t276 = true
 ·subst c5
  have H1 : (if a1 < 0 then (some (0, 0, 0, false)) else (if a1 ≥ (wrap64 (a0_1 - 1)) then (some (0, 0, 0, false)) else (if a2 < 1 then (some (0, 0, 0, false)) else ((split_binsC.f k a0_0 a0_1 a0_2 l0_3 l0_4 0 a0_1).bind fun bt277 => ((split_binsC.f k a0_0 a0_1 a0_2 l0_3 l0_4 0 (wrap64 (a1 + 1))).bind fun bt281 => ((split_binsC.f k a0_0 a0_1 a0_2 l0_3 l0_4 (wrap64 (a1 + 1)) a0_1).bind fun bt285 => (if bt277.2 = true then (if bt281.2 = true then (if bt285.2 = true then ((split_classes_size.f k bt281.1).bind fun t289 => (if t289 < a2 then (some (0, 0, 0, false)) else ((split_classes_size.f k bt285.1).bind fun t290 => (if t290 < a2 then (some (0, 0, 0, false)) else ((split_classes_score.f k bt281.1 bt285.1).bind fun bt291 => ((frac_Right.f bt291.1 bt291.2.1 bt291.2.2).bind fun t295 => (if t295 = true then ((split_classes_alone.f k bt277.1).bind fun bt296 => ((frac_Cmp.f k bt291.1 bt291.2.1 bt291.2.2 bt296.1 bt296.2.1 bt296.2.2).bind fun t299 => (if t299 ≤ 0 then (some (0, 0, 0, false)) else (some (bt291.1, bt291.2.1, bt291.2.2, true))))) else (some (0, 0, 0, false))))))))) else (some (0, 0, 0, false))) else (some (0, 0, 0, false))) else (some (0, 0, 0, false))))))))) = some (r1, r2, r3, r4) := by rw [if_pos rfl] at H; exact H
  clear H
  have H := H1
  clear H1
  by_cases c6 : a1 < 0
  ·rw [if_pos c6] at H
   have c6b0 : decide (a1 < 0) = true := decide_eq_true c6
   clear c6
   simp only [Option.some.injEq, Prod.mk.injEq] at H
   obtain ⟨rfl, rfl, rfl, rfl⟩ := H
   go_enter Try.func10, Try.ntmps10
   go_wp2_with (first | ((with_reducible refine gate_dst (N := 3) rfl ?_); refine box_event ?hg (N := 3) ?hd (cs := #[.int .i64 a0_0, .int .i64 a0_1, .int .i64 a0_2, .slice A0_3 l0_3.length c0_3, .slice A0_4 l0_4.length c0_4]) (t := 25) ?hr ?_; (case hd => rfl); (case hg => rfl); (case hr => first | (go_simp; done) | (go_simp; rfl)); intro gb274 hg w7 hbox hb; have hP_ := lQ (by repeat (first | (with_reducible first | exact HB.out | apply lA | apply lN | apply lD) | exact HB.out)) hb; replace HB := aaM hP_.1; have BK274 := aaM (hbox); have GW274 := aaM (gQ hg hP_.2); have GE274 := aaM (gQ hg hP_.2); clear hP_ hb hbox hg) | ((with_reducible refine gate_dst (N := 6) rfl ?_); refine box_event ?hg (N := 6) ?hd (cs := #[.int .u64 0, .int .u64 0, .int .u64 0]) (t := 32) ?hr ?_; (case hd => rfl); (case hg => rfl); (case hr => first | (go_simp; done) | (go_simp; rfl)); intro gb275 hg w8 hbox hb; have hP_ := lQ (by repeat (first | (with_reducible first | exact HB.out | apply lA | apply lN | apply lD | refine lS ?_ GE274.out) | exact HB.out)) hb; replace HB := aaM hP_.1; have BK275 := aaM (hbox); have GW275 := aaM (gQ hg hP_.2); have GE275 := aaM (gQ hg hP_.2); have NB274_275 := aaM (nL hg BK274.out); have NB275_274 := aaM (nL hg BK274.out).symm; replace BK274 := aaM (bX hb BK274.out); clear hP_ hb hbox hg; have hnb9 := NB274_275.out; have hnc9 := NB275_274.out; obtain ⟨hcz10_0, hcz10_1, hcz10_2, hcz10_3, hcz10_4, hfz10_0, hfz10_1, hfz10_2, hfz10_3, hfz10_4⟩ := bE5 BK274.out) | ((with_reducible refine gate_callee (f := 18) rfl ?_); refine goesL_ (some 16) rfl rfl Try.func18 (by kernel_rfl) rfl #[.agg #[.int .i64 a0_0, .int .i64 a0_1, .int .i64 a0_2, .slice A0_3 l0_3.length c0_3, .slice A0_4 l0_4.length c0_4]] rfl (by (try simp only [mmT, mmC, mmN]); first | done | rfl | (simp only [ddD, ddT]; rfl)) ?_; (with_reducible refine (hist_Right.calls a0_0 a0_1 a0_2 _ _ l0_3 _ _ l0_4 true _ ?side1 ?side2 ?side3 ?side4 A4.out).mono ?_); (case side1 => repeat (first | exact (ccB HR0_3.out HB.out) | (with_reducible refine ccA ?_ _) | (with_reducible refine ccN ?_ _) | (with_reducible refine ccD ?_))); (case side2 => exact HC0_3.out); (case side3 => repeat (first | exact (ccB HR0_4.out HB.out) | (with_reducible refine ccA ?_ _) | (with_reducible refine ccN ?_ _) | (with_reducible refine ccD ?_))); (case side4 => exact HC0_4.out); rintro e w11 ⟨rfl, hb⟩; refine ⟨_, rfl, ?_⟩; replace BK274 := aaM (bX hb BK274.out); replace BK275 := aaM (bX hb BK275.out); replace HB := aaM (lP (by repeat (first | (with_reducible first | exact HB.out | apply lA | apply lN | apply lD | refine lS ?_ GE274.out | refine lS ?_ GE275.out) | exact HB.out)) hb); (try clear hb); (try clear hb2); (try clear hk); (try clear hi); obtain ⟨hcz12_0, hcz12_1, hcz12_2, hfz12_0, hfz12_1, hfz12_2⟩ := bE3 BK275.out))
   refine bodyPost_ret (results_ct rfl _ _ gb275 32 #[.int .u64 0, .int .u64 0, .int .u64 0] (0, 0) _ rfl (by (with_reducible repeat (first | refine bN ?_ _ | refine bD ?_ | refine bA ?_ _)); refine blk_put (cs := #[.int .u64 0, .int .u64 0, .int .u64 0]) ?_ 2 _ rfl; (with_reducible repeat (first | refine bN ?_ _ | refine bD ?_ | refine bA ?_ _)); refine blk_put (cs := #[.int .u64 0, .int .u64 0, .int .u64 0]) ?_ 1 _ rfl; (with_reducible repeat (first | refine bN ?_ _ | refine bD ?_ | refine bA ?_ _)); refine blk_put (cs := #[.int .u64 0, .int .u64 0, .int .u64 0]) ?_ 0 _ rfl; (with_reducible repeat (first | refine bN ?_ _ | refine bD ?_ | refine bA ?_ _)); exact BK275.out) Try.underlying32 rfl (by kernel_rfl)) rfl ?_
   exact ⟨by first | rfl | (simp [errW_none, errW_some] <;> rfl) | (simp [*, errW_none, errW_some] <;> rfl), by repeat (first | (with_reducible first | exact HB.out | apply lA | apply lN | apply lD | refine lS ?_ GE274.out | refine lS ?_ GE275.out) | exact HB.out)⟩
  ·rw [if_neg c6] at H
   have c6b0 : decide (a1 < 0) = false := decide_eq_false c6
   clear c6
   by_cases c13 : a1 ≥ (wrap64 (a0_1 - 1))
   ·rw [if_pos c13] at H
    have c13b0 : decide ((wrap64 (a0_1 - 1)) ≤ a1) = true := decide_eq_true c13
    clear c13
    simp only [Option.some.injEq, Prod.mk.injEq] at H
    obtain ⟨rfl, rfl, rfl, rfl⟩ := H
    go_enter Try.func10, Try.ntmps10
    go_wp2_with (first | ((with_reducible refine gate_dst (N := 3) rfl ?_); refine box_event ?hg (N := 3) ?hd (cs := #[.int .i64 a0_0, .int .i64 a0_1, .int .i64 a0_2, .slice A0_3 l0_3.length c0_3, .slice A0_4 l0_4.length c0_4]) (t := 25) ?hr ?_; (case hd => rfl); (case hg => rfl); (case hr => first | (go_simp; done) | (go_simp; rfl)); intro gb274 hg w14 hbox hb; have hP_ := lQ (by repeat (first | (with_reducible first | exact HB.out | apply lA | apply lN | apply lD) | exact HB.out)) hb; replace HB := aaM hP_.1; have BK274 := aaM (hbox); have GW274 := aaM (gQ hg hP_.2); have GE274 := aaM (gQ hg hP_.2); clear hP_ hb hbox hg) | ((with_reducible refine gate_dst (N := 6) rfl ?_); refine box_event ?hg (N := 6) ?hd (cs := #[.int .u64 0, .int .u64 0, .int .u64 0]) (t := 32) ?hr ?_; (case hd => rfl); (case hg => rfl); (case hr => first | (go_simp; done) | (go_simp; rfl)); intro gb275 hg w15 hbox hb; have hP_ := lQ (by repeat (first | (with_reducible first | exact HB.out | apply lA | apply lN | apply lD | refine lS ?_ GE274.out) | exact HB.out)) hb; replace HB := aaM hP_.1; have BK275 := aaM (hbox); have GW275 := aaM (gQ hg hP_.2); have GE275 := aaM (gQ hg hP_.2); have NB274_275 := aaM (nL hg BK274.out); have NB275_274 := aaM (nL hg BK274.out).symm; replace BK274 := aaM (bX hb BK274.out); clear hP_ hb hbox hg; have hnb16 := NB274_275.out; have hnc16 := NB275_274.out; obtain ⟨hcz17_0, hcz17_1, hcz17_2, hcz17_3, hcz17_4, hfz17_0, hfz17_1, hfz17_2, hfz17_3, hfz17_4⟩ := bE5 BK274.out) | ((with_reducible refine gate_callee (f := 18) rfl ?_); refine goesL_ (some 16) rfl rfl Try.func18 (by kernel_rfl) rfl #[.agg #[.int .i64 a0_0, .int .i64 a0_1, .int .i64 a0_2, .slice A0_3 l0_3.length c0_3, .slice A0_4 l0_4.length c0_4]] rfl (by (try simp only [mmT, mmC, mmN]); first | done | rfl | (simp only [ddD, ddT]; rfl)) ?_; (with_reducible refine (hist_Right.calls a0_0 a0_1 a0_2 _ _ l0_3 _ _ l0_4 true _ ?side1 ?side2 ?side3 ?side4 A4.out).mono ?_); (case side1 => repeat (first | exact (ccB HR0_3.out HB.out) | (with_reducible refine ccA ?_ _) | (with_reducible refine ccN ?_ _) | (with_reducible refine ccD ?_))); (case side2 => exact HC0_3.out); (case side3 => repeat (first | exact (ccB HR0_4.out HB.out) | (with_reducible refine ccA ?_ _) | (with_reducible refine ccN ?_ _) | (with_reducible refine ccD ?_))); (case side4 => exact HC0_4.out); rintro e w18 ⟨rfl, hb⟩; refine ⟨_, rfl, ?_⟩; replace BK274 := aaM (bX hb BK274.out); replace BK275 := aaM (bX hb BK275.out); replace HB := aaM (lP (by repeat (first | (with_reducible first | exact HB.out | apply lA | apply lN | apply lD | refine lS ?_ GE274.out | refine lS ?_ GE275.out) | exact HB.out)) hb); (try clear hb); (try clear hb2); (try clear hk); (try clear hi); obtain ⟨hcz19_0, hcz19_1, hcz19_2, hcz19_3, hcz19_4, hfz19_0, hfz19_1, hfz19_2, hfz19_3, hfz19_4⟩ := bE5 BK274.out; obtain ⟨hcz20_0, hcz20_1, hcz20_2, hfz20_0, hfz20_1, hfz20_2⟩ := bE3 BK275.out))
    refine bodyPost_ret (results_ct rfl _ _ gb275 32 #[.int .u64 0, .int .u64 0, .int .u64 0] (0, 0) _ rfl (by (with_reducible repeat (first | refine bN ?_ _ | refine bD ?_ | refine bA ?_ _)); refine blk_put (cs := #[.int .u64 0, .int .u64 0, .int .u64 0]) ?_ 2 _ rfl; (with_reducible repeat (first | refine bN ?_ _ | refine bD ?_ | refine bA ?_ _)); refine blk_put (cs := #[.int .u64 0, .int .u64 0, .int .u64 0]) ?_ 1 _ rfl; (with_reducible repeat (first | refine bN ?_ _ | refine bD ?_ | refine bA ?_ _)); refine blk_put (cs := #[.int .u64 0, .int .u64 0, .int .u64 0]) ?_ 0 _ rfl; (with_reducible repeat (first | refine bN ?_ _ | refine bD ?_ | refine bA ?_ _)); exact BK275.out) Try.underlying32 rfl (by kernel_rfl)) rfl ?_
    exact ⟨by first | rfl | (simp [errW_none, errW_some] <;> rfl) | (simp [*, errW_none, errW_some] <;> rfl), by repeat (first | (with_reducible first | exact HB.out | apply lA | apply lN | apply lD | refine lS ?_ GE274.out | refine lS ?_ GE275.out) | exact HB.out)⟩
   ·rw [if_neg c13] at H
    have c13b0 : decide ((wrap64 (a0_1 - 1)) ≤ a1) = false := decide_eq_false c13
    clear c13
    by_cases c21 : a2 < 1
    ·rw [if_pos c21] at H
     have c21b0 : decide (a2 < 1) = true := decide_eq_true c21
     clear c21
     simp only [Option.some.injEq, Prod.mk.injEq] at H
     obtain ⟨rfl, rfl, rfl, rfl⟩ := H
     go_enter Try.func10, Try.ntmps10
     go_wp2_with (first | ((with_reducible refine gate_dst (N := 3) rfl ?_); refine box_event ?hg (N := 3) ?hd (cs := #[.int .i64 a0_0, .int .i64 a0_1, .int .i64 a0_2, .slice A0_3 l0_3.length c0_3, .slice A0_4 l0_4.length c0_4]) (t := 25) ?hr ?_; (case hd => rfl); (case hg => rfl); (case hr => first | (go_simp; done) | (go_simp; rfl)); intro gb274 hg w22 hbox hb; have hP_ := lQ (by repeat (first | (with_reducible first | exact HB.out | apply lA | apply lN | apply lD) | exact HB.out)) hb; replace HB := aaM hP_.1; have BK274 := aaM (hbox); have GW274 := aaM (gQ hg hP_.2); have GE274 := aaM (gQ hg hP_.2); clear hP_ hb hbox hg) | ((with_reducible refine gate_dst (N := 6) rfl ?_); refine box_event ?hg (N := 6) ?hd (cs := #[.int .u64 0, .int .u64 0, .int .u64 0]) (t := 32) ?hr ?_; (case hd => rfl); (case hg => rfl); (case hr => first | (go_simp; done) | (go_simp; rfl)); intro gb275 hg w23 hbox hb; have hP_ := lQ (by repeat (first | (with_reducible first | exact HB.out | apply lA | apply lN | apply lD | refine lS ?_ GE274.out) | exact HB.out)) hb; replace HB := aaM hP_.1; have BK275 := aaM (hbox); have GW275 := aaM (gQ hg hP_.2); have GE275 := aaM (gQ hg hP_.2); have NB274_275 := aaM (nL hg BK274.out); have NB275_274 := aaM (nL hg BK274.out).symm; replace BK274 := aaM (bX hb BK274.out); clear hP_ hb hbox hg; have hnb24 := NB274_275.out; have hnc24 := NB275_274.out; obtain ⟨hcz25_0, hcz25_1, hcz25_2, hcz25_3, hcz25_4, hfz25_0, hfz25_1, hfz25_2, hfz25_3, hfz25_4⟩ := bE5 BK274.out) | ((with_reducible refine gate_callee (f := 18) rfl ?_); refine goesL_ (some 16) rfl rfl Try.func18 (by kernel_rfl) rfl #[.agg #[.int .i64 a0_0, .int .i64 a0_1, .int .i64 a0_2, .slice A0_3 l0_3.length c0_3, .slice A0_4 l0_4.length c0_4]] rfl (by (try simp only [mmT, mmC, mmN]); first | done | rfl | (simp only [ddD, ddT]; rfl)) ?_; (with_reducible refine (hist_Right.calls a0_0 a0_1 a0_2 _ _ l0_3 _ _ l0_4 true _ ?side1 ?side2 ?side3 ?side4 A4.out).mono ?_); (case side1 => repeat (first | exact (ccB HR0_3.out HB.out) | (with_reducible refine ccA ?_ _) | (with_reducible refine ccN ?_ _) | (with_reducible refine ccD ?_))); (case side2 => exact HC0_3.out); (case side3 => repeat (first | exact (ccB HR0_4.out HB.out) | (with_reducible refine ccA ?_ _) | (with_reducible refine ccN ?_ _) | (with_reducible refine ccD ?_))); (case side4 => exact HC0_4.out); rintro e w26 ⟨rfl, hb⟩; refine ⟨_, rfl, ?_⟩; replace BK274 := aaM (bX hb BK274.out); replace BK275 := aaM (bX hb BK275.out); replace HB := aaM (lP (by repeat (first | (with_reducible first | exact HB.out | apply lA | apply lN | apply lD | refine lS ?_ GE274.out | refine lS ?_ GE275.out) | exact HB.out)) hb); (try clear hb); (try clear hb2); (try clear hk); (try clear hi); obtain ⟨hcz27_0, hcz27_1, hcz27_2, hcz27_3, hcz27_4, hfz27_0, hfz27_1, hfz27_2, hfz27_3, hfz27_4⟩ := bE5 BK274.out; obtain ⟨hcz28_0, hcz28_1, hcz28_2, hfz28_0, hfz28_1, hfz28_2⟩ := bE3 BK275.out))
     refine bodyPost_ret (results_ct rfl _ _ gb275 32 #[.int .u64 0, .int .u64 0, .int .u64 0] (0, 0) _ rfl (by (with_reducible repeat (first | refine bN ?_ _ | refine bD ?_ | refine bA ?_ _)); refine blk_put (cs := #[.int .u64 0, .int .u64 0, .int .u64 0]) ?_ 2 _ rfl; (with_reducible repeat (first | refine bN ?_ _ | refine bD ?_ | refine bA ?_ _)); refine blk_put (cs := #[.int .u64 0, .int .u64 0, .int .u64 0]) ?_ 1 _ rfl; (with_reducible repeat (first | refine bN ?_ _ | refine bD ?_ | refine bA ?_ _)); refine blk_put (cs := #[.int .u64 0, .int .u64 0, .int .u64 0]) ?_ 0 _ rfl; (with_reducible repeat (first | refine bN ?_ _ | refine bD ?_ | refine bA ?_ _)); exact BK275.out) Try.underlying32 rfl (by kernel_rfl)) rfl ?_
     exact ⟨by first | rfl | (simp [errW_none, errW_some] <;> rfl) | (simp [*, errW_none, errW_some] <;> rfl), by repeat (first | (with_reducible first | exact HB.out | apply lA | apply lN | apply lD | refine lS ?_ GE274.out | refine lS ?_ GE275.out) | exact HB.out)⟩
    ·rw [if_neg c21] at H
     have c21b0 : decide (a2 < 1) = false := decide_eq_false c21
     clear c21
     replace H := ooB.mp H
     obtain ⟨⟨t277, t280⟩, A290, H⟩ := H
     replace H : ((split_binsC.f k a0_0 a0_1 a0_2 l0_3 l0_4 0 (wrap64 (a1 + 1))).bind fun bt281 => ((split_binsC.f k a0_0 a0_1 a0_2 l0_3 l0_4 (wrap64 (a1 + 1)) a0_1).bind fun bt285 => (if t280 = true then (if bt281.2 = true then (if bt285.2 = true then ((split_classes_size.f k bt281.1).bind fun t289 => (if t289 < a2 then (some (0, 0, 0, false)) else ((split_classes_size.f k bt285.1).bind fun t290 => (if t290 < a2 then (some (0, 0, 0, false)) else ((split_classes_score.f k bt281.1 bt285.1).bind fun bt291 => ((frac_Right.f bt291.1 bt291.2.1 bt291.2.2).bind fun t295 => (if t295 = true then ((split_classes_alone.f k t277).bind fun bt296 => ((frac_Cmp.f k bt291.1 bt291.2.1 bt291.2.2 bt296.1 bt296.2.1 bt296.2.2).bind fun t299 => (if t299 ≤ 0 then (some (0, 0, 0, false)) else (some (bt291.1, bt291.2.1, bt291.2.2, true))))) else (some (0, 0, 0, false))))))))) else (some (0, 0, 0, false))) else (some (0, 0, 0, false))) else (some (0, 0, 0, false))))) = some (r1, r2, r3, r4) := H
     have A29 := aaM A290
     clear A290
     replace H := ooB.mp H
     obtain ⟨⟨t281, t284⟩, A300, H⟩ := H
     replace H : ((split_binsC.f k a0_0 a0_1 a0_2 l0_3 l0_4 (wrap64 (a1 + 1)) a0_1).bind fun bt285 => (if t280 = true then (if t284 = true then (if bt285.2 = true then ((split_classes_size.f k t281).bind fun t289 => (if t289 < a2 then (some (0, 0, 0, false)) else ((split_classes_size.f k bt285.1).bind fun t290 => (if t290 < a2 then (some (0, 0, 0, false)) else ((split_classes_score.f k t281 bt285.1).bind fun bt291 => ((frac_Right.f bt291.1 bt291.2.1 bt291.2.2).bind fun t295 => (if t295 = true then ((split_classes_alone.f k t277).bind fun bt296 => ((frac_Cmp.f k bt291.1 bt291.2.1 bt291.2.2 bt296.1 bt296.2.1 bt296.2.2).bind fun t299 => (if t299 ≤ 0 then (some (0, 0, 0, false)) else (some (bt291.1, bt291.2.1, bt291.2.2, true))))) else (some (0, 0, 0, false))))))))) else (some (0, 0, 0, false))) else (some (0, 0, 0, false))) else (some (0, 0, 0, false)))) = some (r1, r2, r3, r4) := H
     have A30 := aaM A300
     clear A300
     replace H := ooB.mp H
     obtain ⟨⟨t285, t288⟩, A310, H⟩ := H
     replace H : (if t280 = true then (if t284 = true then (if t288 = true then ((split_classes_size.f k t281).bind fun t289 => (if t289 < a2 then (some (0, 0, 0, false)) else ((split_classes_size.f k t285).bind fun t290 => (if t290 < a2 then (some (0, 0, 0, false)) else ((split_classes_score.f k t281 t285).bind fun bt291 => ((frac_Right.f bt291.1 bt291.2.1 bt291.2.2).bind fun t295 => (if t295 = true then ((split_classes_alone.f k t277).bind fun bt296 => ((frac_Cmp.f k bt291.1 bt291.2.1 bt291.2.2 bt296.1 bt296.2.1 bt296.2.2).bind fun t299 => (if t299 ≤ 0 then (some (0, 0, 0, false)) else (some (bt291.1, bt291.2.1, bt291.2.2, true))))) else (some (0, 0, 0, false))))))))) else (some (0, 0, 0, false))) else (some (0, 0, 0, false))) else (some (0, 0, 0, false))) = some (r1, r2, r3, r4) := H
     have A31 := aaM A310
     clear A310
     go_enter Try.func10, Try.ntmps10
     go_upto_region 6 with (first | ((with_reducible refine gate_dst (N := 3) rfl ?_); refine box_event ?hg (N := 3) ?hd (cs := #[.int .i64 a0_0, .int .i64 a0_1, .int .i64 a0_2, .slice A0_3 l0_3.length c0_3, .slice A0_4 l0_4.length c0_4]) (t := 25) ?hr ?_; (case hd => rfl); (case hg => rfl); (case hr => first | (go_simp; done) | (go_simp; rfl)); intro gb274 hg w154 hbox hb; have hP_ := lQ (by repeat (first | (with_reducible first | exact HB.out | apply lA | apply lN | apply lD) | exact HB.out)) hb; replace HB := aaM hP_.1; have BK274 := aaM (hbox); have GW274 := aaM (gQ hg hP_.2); have GE274 := aaM (gQ hg hP_.2); clear hP_ hb hbox hg) | ((with_reducible refine gate_dst (N := 6) rfl ?_); refine box_event ?hg (N := 6) ?hd (cs := #[.int .u64 0, .int .u64 0, .int .u64 0]) (t := 32) ?hr ?_; (case hd => rfl); (case hg => rfl); (case hr => first | (go_simp; done) | (go_simp; rfl)); intro gb275 hg w155 hbox hb; have hP_ := lQ (by repeat (first | (with_reducible first | exact HB.out | apply lA | apply lN | apply lD | refine lS ?_ GE274.out) | exact HB.out)) hb; replace HB := aaM hP_.1; have BK275 := aaM (hbox); have GW275 := aaM (gQ hg hP_.2); have GE275 := aaM (gQ hg hP_.2); have NB274_275 := aaM (nL hg BK274.out); have NB275_274 := aaM (nL hg BK274.out).symm; replace BK274 := aaM (bX hb BK274.out); clear hP_ hb hbox hg; have hnb156 := NB274_275.out; have hnc156 := NB275_274.out; obtain ⟨hcz157_0, hcz157_1, hcz157_2, hcz157_3, hcz157_4, hfz157_0, hfz157_1, hfz157_2, hfz157_3, hfz157_4⟩ := bE5 BK274.out) | ((with_reducible refine gate_callee (f := 18) rfl ?_); refine goesL_ (some 16) rfl rfl Try.func18 (by kernel_rfl) rfl #[.agg #[.int .i64 a0_0, .int .i64 a0_1, .int .i64 a0_2, .slice A0_3 l0_3.length c0_3, .slice A0_4 l0_4.length c0_4]] rfl (by (try simp only [mmT, mmC, mmN]); first | done | rfl | (simp only [ddD, ddT]; rfl)) ?_; (with_reducible refine (hist_Right.calls a0_0 a0_1 a0_2 _ _ l0_3 _ _ l0_4 true _ ?side1 ?side2 ?side3 ?side4 A4.out).mono ?_); (case side1 => repeat (first | exact (ccB HR0_3.out HB.out) | (with_reducible refine ccA ?_ _) | (with_reducible refine ccN ?_ _) | (with_reducible refine ccD ?_))); (case side2 => exact HC0_3.out); (case side3 => repeat (first | exact (ccB HR0_4.out HB.out) | (with_reducible refine ccA ?_ _) | (with_reducible refine ccN ?_ _) | (with_reducible refine ccD ?_))); (case side4 => exact HC0_4.out); rintro e w158 ⟨rfl, hb⟩; refine ⟨_, rfl, ?_⟩; replace BK274 := aaM (bX hb BK274.out); replace BK275 := aaM (bX hb BK275.out); replace HB := aaM (lP (by repeat (first | (with_reducible first | exact HB.out | apply lA | apply lN | apply lD | refine lS ?_ GE274.out | refine lS ?_ GE275.out) | exact HB.out)) hb); (try clear hb); (try clear hb2); (try clear hk); (try clear hi); obtain ⟨hcz159_0, hcz159_1, hcz159_2, hcz159_3, hcz159_4, hfz159_0, hfz159_1, hfz159_2, hfz159_3, hfz159_4⟩ := bE5 BK274.out) | ((with_reducible refine gate_callee (f := 19) rfl ?_); refine goesL_ (some 38) rfl rfl Try.func19 (by kernel_rfl) rfl #[.agg #[.int .i64 a0_0, .int .i64 a0_1, .int .i64 a0_2, .slice A0_3 l0_3.length c0_3, .slice A0_4 l0_4.length c0_4], .int .i64 0, .int .i64 a0_1] rfl (by (try simp only [mmT, mmC, mmN]); first | done | rfl | (simp only [ddD, ddT]; rfl)) ?_; (with_reducible refine (split_binsC.calls k a0_0 a0_1 a0_2 _ _ l0_3 _ _ l0_4 0 a0_1 t277 t280 _ ?side1 ?side2 ?side3 ?side4 HKI.out A29.out).mono ?_); (case side1 => repeat (first | exact (ccB HR0_3.out HB.out) | (with_reducible refine ccA ?_ _) | (with_reducible refine ccN ?_ _) | (with_reducible refine ccD ?_))); (case side2 => exact HC0_3.out); (case side3 => repeat (first | exact (ccB HR0_4.out HB.out) | (with_reducible refine ccA ?_ _) | (with_reducible refine ccN ?_ _) | (with_reducible refine ccD ?_))); (case side4 => exact HC0_4.out); rintro e w160 ⟨v278, rfl, ho0, hb⟩; refine ⟨_, rfl, ?_⟩; have HO279 := aaM (Kd.R_lower ho0 (lZ (by repeat (first | (with_reducible first | exact HB.out | apply lA | apply lN | apply lD | refine lS ?_ GE274.out | refine lS ?_ GE275.out) | exact HB.out)))); replace BK274 := aaM (bX hb BK274.out); replace BK275 := aaM (bX hb BK275.out); replace HB := aaM (lP (by repeat (first | (with_reducible first | exact HB.out | apply lA | apply lN | apply lD | refine lS ?_ GE274.out | refine lS ?_ GE275.out) | exact HB.out)) hb); (try clear hb); (try clear hb2); (try clear hk); (try clear hi); (try clear ho0); obtain ⟨hcz161_0, hcz161_1, hcz161_2, hcz161_3, hcz161_4, hfz161_0, hfz161_1, hfz161_2, hfz161_3, hfz161_4⟩ := bE5 BK274.out) | ((with_reducible refine gate_callee (f := 19) rfl ?_); refine goesL_ (some 45) rfl rfl Try.func19 (by kernel_rfl) rfl #[.agg #[.int .i64 a0_0, .int .i64 a0_1, .int .i64 a0_2, .slice A0_3 l0_3.length c0_3, .slice A0_4 l0_4.length c0_4], .int .i64 0, .int .i64 (wrap64 (a1 + 1))] rfl (by (try simp only [mmT, mmC, mmN]); first | done | rfl | (simp only [ddD, ddT]; rfl)) ?_; (with_reducible refine (split_binsC.calls k a0_0 a0_1 a0_2 _ _ l0_3 _ _ l0_4 0 (wrap64 (a1 + 1)) t281 t284 _ ?side1 ?side2 ?side3 ?side4 HKI.out A30.out).mono ?_); (case side1 => repeat (first | exact (ccB HR0_3.out HB.out) | (with_reducible refine ccA ?_ _) | (with_reducible refine ccN ?_ _) | (with_reducible refine ccD ?_))); (case side2 => exact HC0_3.out); (case side3 => repeat (first | exact (ccB HR0_4.out HB.out) | (with_reducible refine ccA ?_ _) | (with_reducible refine ccN ?_ _) | (with_reducible refine ccD ?_))); (case side4 => exact HC0_4.out); rintro e w162 ⟨v282, rfl, ho0, hb⟩; refine ⟨_, rfl, ?_⟩; have HO283 := aaM (Kd.R_lower (Kd.R_new' ho0 (Kd.R_lt (by (with_reducible repeat (first | apply rrA | apply rrN | apply rrD)); exact HO279.out))) (lZ (by repeat (first | (with_reducible first | exact HB.out | apply lA | apply lN | apply lD | refine lS ?_ GE274.out | refine lS ?_ GE275.out) | exact HB.out)))); replace HO279 := aaM (Kd.R_elder' (by (with_reducible repeat (first | apply rrA | apply rrN | apply rrD)); exact HO279.out) (Kd.R_base ho0) hb); replace BK274 := aaM (bX hb BK274.out); replace BK275 := aaM (bX hb BK275.out); replace HB := aaM (lP (by repeat (first | (with_reducible first | exact HB.out | apply lA | apply lN | apply lD | refine lS ?_ GE274.out | refine lS ?_ GE275.out) | exact HB.out)) hb); (try clear hb); (try clear hb2); (try clear hk); (try clear hi); (try clear ho0); obtain ⟨hcz163_0, hcz163_1, hcz163_2, hcz163_3, hcz163_4, hfz163_0, hfz163_1, hfz163_2, hfz163_3, hfz163_4⟩ := bE5 BK274.out) | ((with_reducible refine gate_callee (f := 19) rfl ?_); refine goesL_ (some 54) rfl rfl Try.func19 (by kernel_rfl) rfl #[.agg #[.int .i64 a0_0, .int .i64 a0_1, .int .i64 a0_2, .slice A0_3 l0_3.length c0_3, .slice A0_4 l0_4.length c0_4], .int .i64 (wrap64 (a1 + 1)), .int .i64 a0_1] rfl (by (try simp only [mmT, mmC, mmN]); first | done | rfl | (simp only [ddD, ddT]; rfl)) ?_; (with_reducible refine (split_binsC.calls k a0_0 a0_1 a0_2 _ _ l0_3 _ _ l0_4 (wrap64 (a1 + 1)) a0_1 t285 t288 _ ?side1 ?side2 ?side3 ?side4 HKI.out A31.out).mono ?_); (case side1 => repeat (first | exact (ccB HR0_3.out HB.out) | (with_reducible refine ccA ?_ _) | (with_reducible refine ccN ?_ _) | (with_reducible refine ccD ?_))); (case side2 => exact HC0_3.out); (case side3 => repeat (first | exact (ccB HR0_4.out HB.out) | (with_reducible refine ccA ?_ _) | (with_reducible refine ccN ?_ _) | (with_reducible refine ccD ?_))); (case side4 => exact HC0_4.out); rintro e w164 ⟨v286, rfl, ho0, hb⟩; refine ⟨_, rfl, ?_⟩; have HO287 := aaM (Kd.R_lower (Kd.R_new' (Kd.R_new' ho0 (Kd.R_lt (by (with_reducible repeat (first | apply rrA | apply rrN | apply rrD)); exact HO279.out))) (Kd.R_lt (by (with_reducible repeat (first | apply rrA | apply rrN | apply rrD)); exact HO283.out))) (lZ (by repeat (first | (with_reducible first | exact HB.out | apply lA | apply lN | apply lD | refine lS ?_ GE274.out | refine lS ?_ GE275.out) | exact HB.out)))); replace HO279 := aaM (Kd.R_elder' (by (with_reducible repeat (first | apply rrA | apply rrN | apply rrD)); exact HO279.out) (Kd.R_base ho0) hb); replace HO283 := aaM (Kd.R_elder' (by (with_reducible repeat (first | apply rrA | apply rrN | apply rrD)); exact HO283.out) (Kd.R_base ho0) hb); replace BK274 := aaM (bX hb BK274.out); replace BK275 := aaM (bX hb BK275.out); replace HB := aaM (lP (by repeat (first | (with_reducible first | exact HB.out | apply lA | apply lN | apply lD | refine lS ?_ GE274.out | refine lS ?_ GE275.out) | exact HB.out)) hb); (try clear hb); (try clear hb2); (try clear hk); (try clear hi); (try clear ho0)))
     by_cases c32 : t280 = true
     ·subst c32
      have H1 : (if t284 = true then (if t288 = true then ((split_classes_size.f k t281).bind fun t289 => (if t289 < a2 then (some (0, 0, 0, false)) else ((split_classes_size.f k t285).bind fun t290 => (if t290 < a2 then (some (0, 0, 0, false)) else ((split_classes_score.f k t281 t285).bind fun bt291 => ((frac_Right.f bt291.1 bt291.2.1 bt291.2.2).bind fun t295 => (if t295 = true then ((split_classes_alone.f k t277).bind fun bt296 => ((frac_Cmp.f k bt291.1 bt291.2.1 bt291.2.2 bt296.1 bt296.2.1 bt296.2.2).bind fun t299 => (if t299 ≤ 0 then (some (0, 0, 0, false)) else (some (bt291.1, bt291.2.1, bt291.2.2, true))))) else (some (0, 0, 0, false))))))))) else (some (0, 0, 0, false))) else (some (0, 0, 0, false))) = some (r1, r2, r3, r4) := by rw [if_pos rfl] at H; exact H
      clear H
      have H := H1
      clear H1
      by_cases c33 : t284 = true
      ·subst c33
       have H1 : (if t288 = true then ((split_classes_size.f k t281).bind fun t289 => (if t289 < a2 then (some (0, 0, 0, false)) else ((split_classes_size.f k t285).bind fun t290 => (if t290 < a2 then (some (0, 0, 0, false)) else ((split_classes_score.f k t281 t285).bind fun bt291 => ((frac_Right.f bt291.1 bt291.2.1 bt291.2.2).bind fun t295 => (if t295 = true then ((split_classes_alone.f k t277).bind fun bt296 => ((frac_Cmp.f k bt291.1 bt291.2.1 bt291.2.2 bt296.1 bt296.2.1 bt296.2.2).bind fun t299 => (if t299 ≤ 0 then (some (0, 0, 0, false)) else (some (bt291.1, bt291.2.1, bt291.2.2, true))))) else (some (0, 0, 0, false))))))))) else (some (0, 0, 0, false))) = some (r1, r2, r3, r4) := by rw [if_pos rfl] at H; exact H
       clear H
       have H := H1
       clear H1
       by_cases c34 : t288 = true
       ·subst c34
        have H1 : ((split_classes_size.f k t281).bind fun t289 => (if t289 < a2 then (some (0, 0, 0, false)) else ((split_classes_size.f k t285).bind fun t290 => (if t290 < a2 then (some (0, 0, 0, false)) else ((split_classes_score.f k t281 t285).bind fun bt291 => ((frac_Right.f bt291.1 bt291.2.1 bt291.2.2).bind fun t295 => (if t295 = true then ((split_classes_alone.f k t277).bind fun bt296 => ((frac_Cmp.f k bt291.1 bt291.2.1 bt291.2.2 bt296.1 bt296.2.1 bt296.2.2).bind fun t299 => (if t299 ≤ 0 then (some (0, 0, 0, false)) else (some (bt291.1, bt291.2.1, bt291.2.2, true))))) else (some (0, 0, 0, false))))))))) = some (r1, r2, r3, r4) := by rw [if_pos rfl] at H; exact H
        clear H
        have H := H1
        clear H1
        replace H := ooB.mp H
        obtain ⟨t289, A350, H⟩ := H
        replace H : (if t289 < a2 then (some (0, 0, 0, false)) else ((split_classes_size.f k t285).bind fun t290 => (if t290 < a2 then (some (0, 0, 0, false)) else ((split_classes_score.f k t281 t285).bind fun bt291 => ((frac_Right.f bt291.1 bt291.2.1 bt291.2.2).bind fun t295 => (if t295 = true then ((split_classes_alone.f k t277).bind fun bt296 => ((frac_Cmp.f k bt291.1 bt291.2.1 bt291.2.2 bt296.1 bt296.2.1 bt296.2.2).bind fun t299 => (if t299 ≤ 0 then (some (0, 0, 0, false)) else (some (bt291.1, bt291.2.1, bt291.2.2, true))))) else (some (0, 0, 0, false)))))))) = some (r1, r2, r3, r4) := H
        have A35 := aaM A350
        clear A350
        by_cases c36 : t289 < a2
        ·rw [if_pos c36] at H
         have c36b0 : decide (t289 < a2) = true := decide_eq_true c36
         clear c36
         simp only [Option.some.injEq, Prod.mk.injEq] at H
         obtain ⟨rfl, rfl, rfl, rfl⟩ := H
         obtain ⟨Ao48, co48, eo48⟩ := Kd.R_slice HO283.out
         subst eo48
         go_wp2_with (first | (go_at_call 80; (with_reducible refine (split_classes_size.calls k _ _ t281 t289 _ ?side1 ?side2 A35.out).mono ?_); (case side1 => repeat (first | exact (Kd.R_reads' HO283.out).2.2 | (with_reducible refine ccA ?_ _) | (with_reducible refine ccN ?_ _) | (with_reducible refine ccD ?_))); (case side2 => exact (Kd.R_reads' HO283.out).2.1); rintro e w49 ⟨rfl, hb⟩; replace HO279 := aaM (rrB (by (with_reducible repeat (first | apply rrA | apply rrN | apply rrD)); exact HO279.out) hb); replace HO283 := aaM (rrB (by (with_reducible repeat (first | apply rrA | apply rrN | apply rrD)); exact HO283.out) hb); replace HO287 := aaM (rrB (by (with_reducible repeat (first | apply rrA | apply rrN | apply rrD)); exact HO287.out) hb); replace BK274 := aaM (bX hb BK274.out); replace BK275 := aaM (bX hb BK275.out); replace HB := aaM (lP (by repeat (first | (with_reducible first | exact HB.out | apply lA | apply lN | apply lD | refine lS ?_ GE274.out | refine lS ?_ GE275.out) | exact HB.out)) hb); (try clear hb); (try clear hb2); (try clear hk); (try clear hi); obtain ⟨hcz50_0, hcz50_1, hcz50_2, hfz50_0, hfz50_1, hfz50_2⟩ := bE3 BK275.out))
         refine bodyPost_ret (results_ct rfl _ _ gb275 32 #[.int .u64 0, .int .u64 0, .int .u64 0] (0, 0) _ rfl (by (with_reducible repeat (first | refine bN ?_ _ | refine bD ?_ | refine bA ?_ _)); refine blk_put (cs := #[.int .u64 0, .int .u64 0, .int .u64 0]) ?_ 2 _ rfl; (with_reducible repeat (first | refine bN ?_ _ | refine bD ?_ | refine bA ?_ _)); refine blk_put (cs := #[.int .u64 0, .int .u64 0, .int .u64 0]) ?_ 1 _ rfl; (with_reducible repeat (first | refine bN ?_ _ | refine bD ?_ | refine bA ?_ _)); refine blk_put (cs := #[.int .u64 0, .int .u64 0, .int .u64 0]) ?_ 0 _ rfl; (with_reducible repeat (first | refine bN ?_ _ | refine bD ?_ | refine bA ?_ _)); exact BK275.out) Try.underlying32 rfl (by kernel_rfl)) rfl ?_
         exact ⟨by first | rfl | (simp [errW_none, errW_some] <;> rfl) | (simp [*, errW_none, errW_some] <;> rfl), by repeat (first | (with_reducible first | exact HB.out | apply lA | apply lN | apply lD | refine lS ?_ GE274.out | refine lS ?_ GE275.out) | exact HB.out)⟩
        ·rw [if_neg c36] at H
         have c36b0 : decide (t289 < a2) = false := decide_eq_false c36
         clear c36
         replace H := ooB.mp H
         obtain ⟨t290, A510, H⟩ := H
         replace H : (if t290 < a2 then (some (0, 0, 0, false)) else ((split_classes_score.f k t281 t285).bind fun bt291 => ((frac_Right.f bt291.1 bt291.2.1 bt291.2.2).bind fun t295 => (if t295 = true then ((split_classes_alone.f k t277).bind fun bt296 => ((frac_Cmp.f k bt291.1 bt291.2.1 bt291.2.2 bt296.1 bt296.2.1 bt296.2.2).bind fun t299 => (if t299 ≤ 0 then (some (0, 0, 0, false)) else (some (bt291.1, bt291.2.1, bt291.2.2, true))))) else (some (0, 0, 0, false)))))) = some (r1, r2, r3, r4) := H
         have A51 := aaM A510
         clear A510
         by_cases c52 : t290 < a2
         ·rw [if_pos c52] at H
          have c52b0 : decide (t290 < a2) = true := decide_eq_true c52
          clear c52
          simp only [Option.some.injEq, Prod.mk.injEq] at H
          obtain ⟨rfl, rfl, rfl, rfl⟩ := H
          obtain ⟨Ao64, co64, eo64⟩ := Kd.R_slice HO283.out
          subst eo64
          go_wp2_with (first | (go_at_call 80; (with_reducible refine (split_classes_size.calls k _ _ t281 t289 _ ?side1 ?side2 A35.out).mono ?_); (case side1 => repeat (first | exact (Kd.R_reads' HO283.out).2.2 | (with_reducible refine ccA ?_ _) | (with_reducible refine ccN ?_ _) | (with_reducible refine ccD ?_))); (case side2 => exact (Kd.R_reads' HO283.out).2.1); rintro e w65 ⟨rfl, hb⟩; replace HO279 := aaM (rrB (by (with_reducible repeat (first | apply rrA | apply rrN | apply rrD)); exact HO279.out) hb); replace HO283 := aaM (rrB (by (with_reducible repeat (first | apply rrA | apply rrN | apply rrD)); exact HO283.out) hb); replace HO287 := aaM (rrB (by (with_reducible repeat (first | apply rrA | apply rrN | apply rrD)); exact HO287.out) hb); replace BK274 := aaM (bX hb BK274.out); replace BK275 := aaM (bX hb BK275.out); replace HB := aaM (lP (by repeat (first | (with_reducible first | exact HB.out | apply lA | apply lN | apply lD | refine lS ?_ GE274.out | refine lS ?_ GE275.out) | exact HB.out)) hb); (try clear hb); (try clear hb2); (try clear hk); (try clear hi); obtain ⟨Ao66, co66, eo66⟩ := Kd.R_slice HO287.out; subst eo66) | (go_at_call 80; (with_reducible refine (split_classes_size.calls k _ _ t285 t290 _ ?side1 ?side2 A51.out).mono ?_); (case side1 => repeat (first | exact (Kd.R_reads' HO287.out).2.2 | (with_reducible refine ccA ?_ _) | (with_reducible refine ccN ?_ _) | (with_reducible refine ccD ?_))); (case side2 => exact (Kd.R_reads' HO287.out).2.1); rintro e w67 ⟨rfl, hb⟩; replace HO279 := aaM (rrB (by (with_reducible repeat (first | apply rrA | apply rrN | apply rrD)); exact HO279.out) hb); replace HO283 := aaM (rrB (by (with_reducible repeat (first | apply rrA | apply rrN | apply rrD)); exact HO283.out) hb); replace HO287 := aaM (rrB (by (with_reducible repeat (first | apply rrA | apply rrN | apply rrD)); exact HO287.out) hb); replace BK274 := aaM (bX hb BK274.out); replace BK275 := aaM (bX hb BK275.out); replace HB := aaM (lP (by repeat (first | (with_reducible first | exact HB.out | apply lA | apply lN | apply lD | refine lS ?_ GE274.out | refine lS ?_ GE275.out) | exact HB.out)) hb); (try clear hb); (try clear hb2); (try clear hk); (try clear hi); obtain ⟨hcz68_0, hcz68_1, hcz68_2, hfz68_0, hfz68_1, hfz68_2⟩ := bE3 BK275.out))
          refine bodyPost_ret (results_ct rfl _ _ gb275 32 #[.int .u64 0, .int .u64 0, .int .u64 0] (0, 0) _ rfl (by (with_reducible repeat (first | refine bN ?_ _ | refine bD ?_ | refine bA ?_ _)); refine blk_put (cs := #[.int .u64 0, .int .u64 0, .int .u64 0]) ?_ 2 _ rfl; (with_reducible repeat (first | refine bN ?_ _ | refine bD ?_ | refine bA ?_ _)); refine blk_put (cs := #[.int .u64 0, .int .u64 0, .int .u64 0]) ?_ 1 _ rfl; (with_reducible repeat (first | refine bN ?_ _ | refine bD ?_ | refine bA ?_ _)); refine blk_put (cs := #[.int .u64 0, .int .u64 0, .int .u64 0]) ?_ 0 _ rfl; (with_reducible repeat (first | refine bN ?_ _ | refine bD ?_ | refine bA ?_ _)); exact BK275.out) Try.underlying32 rfl (by kernel_rfl)) rfl ?_
          exact ⟨by first | rfl | (simp [errW_none, errW_some] <;> rfl) | (simp [*, errW_none, errW_some] <;> rfl), by repeat (first | (with_reducible first | exact HB.out | apply lA | apply lN | apply lD | refine lS ?_ GE274.out | refine lS ?_ GE275.out) | exact HB.out)⟩
         ·rw [if_neg c52] at H
          have c52b0 : decide (t290 < a2) = false := decide_eq_false c52
          clear c52
          replace H := ooB.mp H
          obtain ⟨⟨t291, t292, t293⟩, A690, H⟩ := H
          replace H : ((frac_Right.f t291 t292 t293).bind fun t295 => (if t295 = true then ((split_classes_alone.f k t277).bind fun bt296 => ((frac_Cmp.f k t291 t292 t293 bt296.1 bt296.2.1 bt296.2.2).bind fun t299 => (if t299 ≤ 0 then (some (0, 0, 0, false)) else (some (t291, t292, t293, true))))) else (some (0, 0, 0, false)))) = some (r1, r2, r3, r4) := H
          have A69 := aaM A690
          clear A690
          replace H := ooB.mp H
          obtain ⟨t295, A700, H⟩ := H
          replace H : (if t295 = true then ((split_classes_alone.f k t277).bind fun bt296 => ((frac_Cmp.f k t291 t292 t293 bt296.1 bt296.2.1 bt296.2.2).bind fun t299 => (if t299 ≤ 0 then (some (0, 0, 0, false)) else (some (t291, t292, t293, true))))) else (some (0, 0, 0, false))) = some (r1, r2, r3, r4) := H
          have A70 := aaM A700
          clear A700
          by_cases c71 : t295 = true
          ·subst c71
           have H1 : ((split_classes_alone.f k t277).bind fun bt296 => ((frac_Cmp.f k t291 t292 t293 bt296.1 bt296.2.1 bt296.2.2).bind fun t299 => (if t299 ≤ 0 then (some (0, 0, 0, false)) else (some (t291, t292, t293, true))))) = some (r1, r2, r3, r4) := by rw [if_pos rfl] at H; exact H
           clear H
           have H := H1
           clear H1
           replace H := ooB.mp H
           obtain ⟨⟨t296, t297, t298⟩, A720, H⟩ := H
           replace H : ((frac_Cmp.f k t291 t292 t293 t296 t297 t298).bind fun t299 => (if t299 ≤ 0 then (some (0, 0, 0, false)) else (some (t291, t292, t293, true)))) = some (r1, r2, r3, r4) := H
           have A72 := aaM A720
           clear A720
           replace H := ooB.mp H
           obtain ⟨t299, A730, H⟩ := H
           replace H : (if t299 ≤ 0 then (some (0, 0, 0, false)) else (some (t291, t292, t293, true))) = some (r1, r2, r3, r4) := H
           have A73 := aaM A730
           clear A730
           by_cases c74 : t299 ≤ 0
           ·rw [if_pos c74] at H
            have c74b0 : decide (t299 ≤ 0) = true := decide_eq_true c74
            clear c74
            simp only [Option.some.injEq, Prod.mk.injEq] at H
            obtain ⟨rfl, rfl, rfl, rfl⟩ := H
            obtain ⟨Ao86, co86, eo86⟩ := Kd.R_slice HO283.out
            subst eo86
            try go_wp2_with (first | (go_at_call 80; (with_reducible refine (split_classes_size.calls k _ _ t281 t289 _ ?side1 ?side2 A35.out).mono ?_); (case side1 => repeat (first | exact (Kd.R_reads' HO283.out).2.2 | (with_reducible refine ccA ?_ _) | (with_reducible refine ccN ?_ _) | (with_reducible refine ccD ?_))); (case side2 => exact (Kd.R_reads' HO283.out).2.1); rintro e w87 ⟨rfl, hb⟩; replace HO279 := aaM (rrB (by (with_reducible repeat (first | apply rrA | apply rrN | apply rrD)); exact HO279.out) hb); replace HO283 := aaM (rrB (by (with_reducible repeat (first | apply rrA | apply rrN | apply rrD)); exact HO283.out) hb); replace HO287 := aaM (rrB (by (with_reducible repeat (first | apply rrA | apply rrN | apply rrD)); exact HO287.out) hb); replace BK274 := aaM (bX hb BK274.out); replace BK275 := aaM (bX hb BK275.out); replace HB := aaM (lP (by repeat (first | (with_reducible first | exact HB.out | apply lA | apply lN | apply lD | refine lS ?_ GE274.out | refine lS ?_ GE275.out) | exact HB.out)) hb); (try clear hb); (try clear hb2); (try clear hk); (try clear hi); obtain ⟨Ao88, co88, eo88⟩ := Kd.R_slice HO287.out; subst eo88) | (go_at_call 80; (with_reducible refine (split_classes_size.calls k _ _ t285 t290 _ ?side1 ?side2 A51.out).mono ?_); (case side1 => repeat (first | exact (Kd.R_reads' HO287.out).2.2 | (with_reducible refine ccA ?_ _) | (with_reducible refine ccN ?_ _) | (with_reducible refine ccD ?_))); (case side2 => exact (Kd.R_reads' HO287.out).2.1); rintro e w89 ⟨rfl, hb⟩; replace HO279 := aaM (rrB (by (with_reducible repeat (first | apply rrA | apply rrN | apply rrD)); exact HO279.out) hb); replace HO283 := aaM (rrB (by (with_reducible repeat (first | apply rrA | apply rrN | apply rrD)); exact HO283.out) hb); replace HO287 := aaM (rrB (by (with_reducible repeat (first | apply rrA | apply rrN | apply rrD)); exact HO287.out) hb); replace BK274 := aaM (bX hb BK274.out); replace BK275 := aaM (bX hb BK275.out); replace HB := aaM (lP (by repeat (first | (with_reducible first | exact HB.out | apply lA | apply lN | apply lD | refine lS ?_ GE274.out | refine lS ?_ GE275.out) | exact HB.out)) hb); (try clear hb); (try clear hb2); (try clear hk); (try clear hi)) | ((with_reducible refine gate_dst (N := 82) rfl ?_); refine goesIL_ (T := 81) (some 82) rfl rfl Try.func79 (by kernel_rfl) rfl #[.iface 81 (.agg #[.slice Ao88 t285.length co88])] #[.agg #[.slice Ao86 t281.length co86], .iface 81 (.agg #[.slice Ao88 t285.length co88])] rfl (split_CutC.mscore _ _) rfl rfl (by first | rfl | simp [Act.eval]) ?_; (with_reducible refine (split_classes_score.calls k _ _ t281 _ _ t285 t291 t292 t293 _ ?side1 ?side2 ?side3 ?side4 A69.out).mono ?_); (case side1 => repeat (first | exact (Kd.R_reads' HO283.out).2.2 | (with_reducible refine ccA ?_ _) | (with_reducible refine ccN ?_ _) | (with_reducible refine ccD ?_))); (case side2 => exact (Kd.R_reads' HO283.out).2.1); (case side3 => repeat (first | exact (Kd.R_reads' HO287.out).2.2 | (with_reducible refine ccA ?_ _) | (with_reducible refine ccN ?_ _) | (with_reducible refine ccD ?_))); (case side4 => exact (Kd.R_reads' HO287.out).2.1); rintro e w90 ⟨rfl, hb⟩; refine ⟨_, rfl, ?_⟩; replace HO279 := aaM (rrB (by (with_reducible repeat (first | apply rrA | apply rrN | apply rrD)); exact HO279.out) hb); replace HO283 := aaM (rrB (by (with_reducible repeat (first | apply rrA | apply rrN | apply rrD)); exact HO283.out) hb); replace HO287 := aaM (rrB (by (with_reducible repeat (first | apply rrA | apply rrN | apply rrD)); exact HO287.out) hb); replace BK274 := aaM (bX hb BK274.out); replace BK275 := aaM (bX hb BK275.out); replace HB := aaM (lP (by repeat (first | (with_reducible first | exact HB.out | apply lA | apply lN | apply lD | refine lS ?_ GE274.out | refine lS ?_ GE275.out) | exact HB.out)) hb); (try clear hb); (try clear hb2); (try clear hk); (try clear hi)) | ((with_reducible refine gate_dst (N := 14) rfl ?_); refine box_event ?hg (N := 14) ?hd (cs := #[.int .u64 0, .int .u64 0, .int .u64 0]) (t := 32) ?hr ?_; (case hd => rfl); (case hg => rfl); (case hr => first | (go_simp; done) | (go_simp; rfl)); intro gb294 hg w91 hbox hb; have hP_ := lQ (by repeat (first | (with_reducible first | exact HB.out | apply lA | apply lN | apply lD | refine lS ?_ GE274.out | refine lS ?_ GE275.out) | exact HB.out)) hb; replace HO279 := aaM (rrB (by (with_reducible repeat (first | apply rrA | apply rrN | apply rrD)); exact HO279.out) hb); replace HO283 := aaM (rrB (by (with_reducible repeat (first | apply rrA | apply rrN | apply rrD)); exact HO283.out) hb); replace HO287 := aaM (rrB (by (with_reducible repeat (first | apply rrA | apply rrN | apply rrD)); exact HO287.out) hb); replace HB := aaM hP_.1; have BK294 := aaM (hbox); have GW294 := aaM (gQ hg hP_.2); have GE294 := aaM (gQ hg hP_.2); have NB274_294 := aaM (nL hg BK274.out); have NB294_274 := aaM (nL hg BK274.out).symm; replace BK274 := aaM (bX hb BK274.out); have NB275_294 := aaM (nL hg BK275.out); have NB294_275 := aaM (nL hg BK275.out).symm; replace BK275 := aaM (bX hb BK275.out); clear hP_ hb hbox hg; have hnb92 := NB294_274.out; have hnc92 := NB274_294.out; have hnb93 := NB294_275.out; have hnc93 := NB275_294.out; obtain ⟨hcz94_0, hcz94_1, hcz94_2, hfz94_0, hfz94_1, hfz94_2⟩ := bE3 BK294.out))
            have n0_ : Aside0 (Kd.R (Kd.int .i64) 2 (((w91.setCell ⟨gb294, 0, none⟩ (.int .u64 t291)).setCell ⟨gb294, 1, none⟩ (.int .u64 t292)).setCell ⟨gb294, 2, none⟩ (.int .u64 t293)) w.heap.size (fun k_ => some k_ ≠ (.slice Ao86 t281.length co86 : Value).ownBlock ∧ some k_ ≠ (.slice Ao88 t285.length co88 : Value).ownBlock) v278 t277) := ⟨by (with_reducible repeat (first | apply rrA | apply rrN | apply rrD)); exact Kd.R_mono (rrF (p := ⟨gb294, 2, none⟩) (rrF (p := ⟨gb294, 1, none⟩) (rrF (p := ⟨gb294, 0, none⟩) (Kd.R_types HO279.out BK294.out (by decide)) (fun _ hk => hk.2) (.int .u64 t291)) (fun _ hk => hk.2) (.int .u64 t292)) (fun _ hk => hk.2) (.int .u64 t293)) (fun _ hk => ⟨hk.1.1.2, hk.1.2⟩)⟩
            have n1_ : Aside0 (Kd.R (Kd.int .i64) 2 (((w91.setCell ⟨gb294, 0, none⟩ (.int .u64 t291)).setCell ⟨gb294, 1, none⟩ (.int .u64 t292)).setCell ⟨gb294, 2, none⟩ (.int .u64 t293)) w.heap.size (fun k_ => some k_ ≠ (v278 : Value).ownBlock ∧ some k_ ≠ (.slice Ao88 t285.length co88 : Value).ownBlock) (.slice Ao86 t281.length co86) t281) := ⟨by (with_reducible repeat (first | apply rrA | apply rrN | apply rrD)); exact Kd.R_mono (rrF (p := ⟨gb294, 2, none⟩) (rrF (p := ⟨gb294, 1, none⟩) (rrF (p := ⟨gb294, 0, none⟩) (Kd.R_types HO283.out BK294.out (by decide)) (fun _ hk => hk.2) (.int .u64 t291)) (fun _ hk => hk.2) (.int .u64 t292)) (fun _ hk => hk.2) (.int .u64 t293)) (fun _ hk => ⟨hk.1.1.2, hk.1.2⟩)⟩
            have n2_ : Aside0 (Kd.R (Kd.int .i64) 2 (((w91.setCell ⟨gb294, 0, none⟩ (.int .u64 t291)).setCell ⟨gb294, 1, none⟩ (.int .u64 t292)).setCell ⟨gb294, 2, none⟩ (.int .u64 t293)) w.heap.size (fun k_ => some k_ ≠ (v278 : Value).ownBlock ∧ some k_ ≠ (.slice Ao86 t281.length co86 : Value).ownBlock) (.slice Ao88 t285.length co88) t285) := ⟨by (with_reducible repeat (first | apply rrA | apply rrN | apply rrD)); exact Kd.R_mono (rrF (p := ⟨gb294, 2, none⟩) (rrF (p := ⟨gb294, 1, none⟩) (rrF (p := ⟨gb294, 0, none⟩) (Kd.R_types HO287.out BK294.out (by decide)) (fun _ hk => hk.2) (.int .u64 t291)) (fun _ hk => hk.2) (.int .u64 t292)) (fun _ hk => hk.2) (.int .u64 t293)) (fun _ hk => ⟨hk.1.1.2, hk.1.2⟩)⟩
            have n3_ : Aside0 ((((w91.setCell ⟨gb294, 0, none⟩ (.int .u64 t291)).setCell ⟨gb294, 1, none⟩ (.int .u64 t292)).setCell ⟨gb294, 2, none⟩ (.int .u64 t293)).heap[gb274]? = some (.cells #[.int .i64 a0_0, .int .i64 a0_1, .int .i64 a0_2, .slice A0_3 l0_3.length c0_3, .slice A0_4 l0_4.length c0_4] 25 (0, 0))) := ⟨by (with_reducible repeat (first | refine bN ?_ _ | refine bD ?_ | refine bA ?_ _)); refine blk_far ?_ NB274_294.out _; (with_reducible repeat (first | refine bN ?_ _ | refine bD ?_ | refine bA ?_ _)); refine blk_far ?_ NB274_294.out _; (with_reducible repeat (first | refine bN ?_ _ | refine bD ?_ | refine bA ?_ _)); refine blk_far ?_ NB274_294.out _; (with_reducible repeat (first | refine bN ?_ _ | refine bD ?_ | refine bA ?_ _)); exact BK274.out⟩
            have n4_ : Aside0 ((((w91.setCell ⟨gb294, 0, none⟩ (.int .u64 t291)).setCell ⟨gb294, 1, none⟩ (.int .u64 t292)).setCell ⟨gb294, 2, none⟩ (.int .u64 t293)).heap[gb275]? = some (.cells #[.int .u64 0, .int .u64 0, .int .u64 0] 32 (0, 0))) := ⟨by (with_reducible repeat (first | refine bN ?_ _ | refine bD ?_ | refine bA ?_ _)); refine blk_far ?_ NB275_294.out _; (with_reducible repeat (first | refine bN ?_ _ | refine bD ?_ | refine bA ?_ _)); refine blk_far ?_ NB275_294.out _; (with_reducible repeat (first | refine bN ?_ _ | refine bD ?_ | refine bA ?_ _)); refine blk_far ?_ NB275_294.out _; (with_reducible repeat (first | refine bN ?_ _ | refine bD ?_ | refine bA ?_ _)); exact BK275.out⟩
            have n5_ : Aside0 ((((w91.setCell ⟨gb294, 0, none⟩ (.int .u64 t291)).setCell ⟨gb294, 1, none⟩ (.int .u64 t292)).setCell ⟨gb294, 2, none⟩ (.int .u64 t293)).heap[gb294]? = some (.cells #[.int .u64 t291, .int .u64 t292, .int .u64 t293] 32 (0, 0))) := ⟨by (with_reducible repeat (first | refine bN ?_ _ | refine bD ?_ | refine bA ?_ _)); refine blk_put (cs := #[.int .u64 t291, .int .u64 t292, .int .u64 0]) ?_ 2 _ rfl; (with_reducible repeat (first | refine bN ?_ _ | refine bD ?_ | refine bA ?_ _)); refine blk_put (cs := #[.int .u64 t291, .int .u64 0, .int .u64 0]) ?_ 1 _ rfl; (with_reducible repeat (first | refine bN ?_ _ | refine bD ?_ | refine bA ?_ _)); refine blk_put (cs := #[.int .u64 0, .int .u64 0, .int .u64 0]) ?_ 0 _ rfl; (with_reducible repeat (first | refine bN ?_ _ | refine bD ?_ | refine bA ?_ _)); exact BK294.out⟩
            have n6_ : Aside0 (Below w.heap.size w (((w91.setCell ⟨gb294, 0, none⟩ (.int .u64 t291)).setCell ⟨gb294, 1, none⟩ (.int .u64 t292)).setCell ⟨gb294, 2, none⟩ (.int .u64 t293))) := ⟨by repeat (first | (with_reducible first | exact HB.out | apply lA | apply lN | apply lD | refine lS ?_ GE274.out | refine lS ?_ GE275.out | refine lS ?_ GE294.out) | exact HB.out)⟩
            (try clear HO279)
            (try clear HO283)
            (try clear HO287)
            (try clear BK274)
            (try clear BK275)
            (try clear BK294)
            (try clear HB)
            generalize (((w91.setCell ⟨gb294, 0, none⟩ (.int .u64 t291)).setCell ⟨gb294, 1, none⟩ (.int .u64 t292)).setCell ⟨gb294, 2, none⟩ (.int .u64 t293)) = w95 at n0_ n1_ n2_ n3_ n4_ n5_ n6_ ⊢
            have HO279 := n0_
            have HO283 := n1_
            have HO287 := n2_
            have BK274 := n3_
            have BK275 := n4_
            have BK294 := n5_
            have HB := n6_
            clear n0_ n1_ n2_ n3_ n4_ n5_ n6_
            replace HO279 := aaM (rrD HO279.out)
            replace HO283 := aaM (rrD HO283.out)
            replace HO287 := aaM (rrD HO287.out)
            replace BK274 := aaM (bD BK274.out)
            replace BK275 := aaM (bD BK275.out)
            replace BK294 := aaM (bD BK294.out)
            replace HB := aaM (lD HB.out)
            refine start_ (n := 10) (S := fun w' => w'.cell? ⟨gb294, 0, none⟩ = some (.int .u64 t291) ∧ w'.cell? ⟨gb294, 1, none⟩ = some (.int .u64 t292) ∧ w'.cell? ⟨gb294, 2, none⟩ = some (.int .u64 t293)) (ds := []) #[false, false, false, false, false, false, false, false, false, false] (by kernel_rfl) rfl rfl ⟨(bC BK294.out 0).trans rfl, (bC BK294.out 1).trans rfl, (bC BK294.out 2).trans rfl⟩ (fun hHeld => ?_); refine with_tabW split_CutC.tab9 split_CutC.bits9 (fun HT_ HW_ => ?_)
            generalize w95.drew = w96 at HO279 HO283 HO287 BK274 BK275 BK294 HB hHeld ⊢
            refine take_ (i := 0) (N := some 83) (v := ?_) (a' := ?_) #[true, false, false, false, false, false, false, false, false, false] rfl rfl (take_ofW HT_.out HW_.out (by kernel_rfl)) (fun _ _ _ h => h) (Or.inl ⟨by rfl, ?_⟩) hHeld ?_ ?_
            rotate_left
            ·rintro w' ⟨s0, s1, s2⟩
             go_simp
             with_reducible rfl
            rotate_left
            ·simp only [Act.put, ssB, ssZ, ssS, i64_w, i32_w]
             rfl
            refine one_ (i := 1) (N := some 84) #[true, true, false, false, false, false, false, false, false, false] rfl rfl (one_of HT_.out (by kernel_rfl)) (by decide) (fun K hK => ?_)
            refine goes_ Try.func20 (by kernel_rfl) rfl #[.agg #[.int .u64 t291, .int .u64 t292, .int .u64 t293]] (by rfl) rfl rfl (by (try simp only [mmT, mmC, mmN]); first | done | rfl | (simp only [ddD, ddT]; rfl)) ?_
            with_reducible refine (frac_Right.calls t291 t292 t293 true _ A70.out).mono ?_
            rintro e w97 ⟨rfl, hb⟩
            refine ⟨_, rfl, ?_⟩
            replace HO279 := aaM (rrB (by (with_reducible repeat (first | apply rrA | apply rrN | apply rrD)); exact HO279.out) hb)
            replace HO283 := aaM (rrB (by (with_reducible repeat (first | apply rrA | apply rrN | apply rrD)); exact HO283.out) hb)
            replace HO287 := aaM (rrB (by (with_reducible repeat (first | apply rrA | apply rrN | apply rrD)); exact HO287.out) hb)
            replace BK274 := aaM (bX hb BK274.out)
            replace BK275 := aaM (bX hb BK275.out)
            replace BK294 := aaM (bX hb BK294.out)
            replace HB := aaM (lP (by repeat (first | (with_reducible first | exact HB.out | apply lA | apply lN | apply lD | refine lS ?_ GE274.out | refine lS ?_ GE275.out | refine lS ?_ GE294.out) | exact HB.out)) hb)
            (try clear hb)
            (try clear hb2)
            (try clear hk)
            (try clear hi)
            obtain ⟨Ao98, co98, eo98⟩ := Kd.R_slice HO279.out
            (first | subst eo98 | (injection eo98 with f1_ f2_ f3_; have f4_ := f1_.symm; have f5_ := f3_.symm; clear f1_ f2_ f3_; subst f4_; subst f5_))
            refine hK.out _ _ ⟨(bC BK294.out 0).trans rfl, (bC BK294.out 1).trans rfl, (bC BK294.out 2).trans rfl⟩ (fun hHeld => ?_)
            clear hK K
            refine norm_ (a' := ?_) ?_ ?_
            rotate_left
            ·show Act.put _ (some 84) _ = _
             simp only [Act.put, ssB, ssZ, ssS, i64_w, i32_w]
             rfl
            refine pure_ (i := 2) (N := some 85) (v := ?_) (a' := ?_) #[true, true, true, false, false, false, false, false, false, false] rfl rfl (any_of HT_.out (by kernel_rfl)) (fun _ _ _ h => h) (Or.inl ⟨by rfl, ?_⟩) ?_ ?_
            rotate_left
            ·intro w'
             go_simp
             with_reducible rfl
            rotate_left
            ·simp only [Act.put, ssB, ssZ, ssS, i64_w, i32_w]
             rfl
            refine pure_ (i := 3) (N := some 86) (v := ?_) (a' := ?_) #[true, true, true, true, false, false, false, false, false, false] rfl rfl (any_of HT_.out (by kernel_rfl)) (fun _ _ _ h => h) (Or.inl ⟨by rfl, ?_⟩) ?_ ?_
            rotate_left
            ·intro w'
             go_simp
             with_reducible rfl
            rotate_left
            ·simp only [Act.put, ssB, ssZ, ssS, i64_w, i32_w]
             rfl
            refine pure_ (i := 5) (N := some 88) (v := ?_) (a' := ?_) #[true, true, true, true, false, true, false, false, false, false] rfl rfl (any_of HT_.out (by kernel_rfl)) (fun _ _ _ h => h) (Or.inl ⟨by rfl, ?_⟩) ?_ ?_
            rotate_left
            ·intro w'
             go_simp
             with_reducible rfl
            rotate_left
            ·simp only [Act.put, ssB, ssZ, ssS, i64_w, i32_w]
             rfl
            refine take_ (i := 4) (N := some 87) (v := ?_) (a' := ?_) #[true, true, true, true, true, true, false, false, false, false] rfl rfl (take_ofW HT_.out HW_.out (by kernel_rfl)) (fun _ _ _ h => h) (Or.inl ⟨by rfl, ?_⟩) hHeld ?_ ?_
            rotate_left
            ·rintro w' ⟨s0, s1, s2⟩
             go_simp
             with_reducible rfl
            rotate_left
            ·simp only [Act.put, ssB, ssZ, ssS, i64_w, i32_w]
             rfl
            refine one_ (i := 6) (N := some 89) #[true, true, true, true, true, true, true, false, false, false] rfl rfl (one_of HT_.out (by kernel_rfl)) (by decide) (fun K hK => ?_)
            refine goesI_ (T := 81) Try.func78 (by kernel_rfl) rfl #[] #[.agg #[.slice Ao98 t277.length co98]] rfl (split_CutC.malone _ _) (by rfl) rfl rfl rfl (by simp) ?_
            with_reducible refine (split_classes_alone.calls k _ _ t277 t296 t297 t298 _ ?side1 ?side2 A72.out).mono ?_
            (case side1 => repeat (first | exact (Kd.R_reads' HO279.out).2.2 | (with_reducible refine ccA ?_ _) | (with_reducible refine ccN ?_ _) | (with_reducible refine ccD ?_)))
            (case side2 => exact (Kd.R_reads' HO279.out).2.1)
            rintro e w99 ⟨rfl, hb⟩
            refine ⟨_, rfl, ?_⟩
            replace HO279 := aaM (rrB (by (with_reducible repeat (first | apply rrA | apply rrN | apply rrD)); exact HO279.out) hb)
            replace HO283 := aaM (rrB (by (with_reducible repeat (first | apply rrA | apply rrN | apply rrD)); exact HO283.out) hb)
            replace HO287 := aaM (rrB (by (with_reducible repeat (first | apply rrA | apply rrN | apply rrD)); exact HO287.out) hb)
            replace BK274 := aaM (bX hb BK274.out)
            replace BK275 := aaM (bX hb BK275.out)
            replace BK294 := aaM (bX hb BK294.out)
            replace HB := aaM (lP (by repeat (first | (with_reducible first | exact HB.out | apply lA | apply lN | apply lD | refine lS ?_ GE274.out | refine lS ?_ GE275.out | refine lS ?_ GE294.out) | exact HB.out)) hb)
            (try clear hb)
            (try clear hb2)
            (try clear hk)
            (try clear hi)
            refine hK.out _ _ ⟨(bC BK294.out 0).trans rfl, (bC BK294.out 1).trans rfl, (bC BK294.out 2).trans rfl⟩ (fun hHeld => ?_)
            clear hK K
            refine norm_ (a' := ?_) ?_ ?_
            rotate_left
            ·show Act.put _ (some 89) _ = _
             simp only [Act.put, ssB, ssZ, ssS, i64_w, i32_w]
             rfl
            refine one_ (i := 7) (N := some 90) #[true, true, true, true, true, true, true, true, false, false] rfl rfl (one_of HT_.out (by kernel_rfl)) (by decide) (fun K hK => ?_)
            refine goes_ Try.func21 (by kernel_rfl) rfl #[.agg #[.int .u64 t291, .int .u64 t292, .int .u64 t293], .agg #[.int .u64 t296, .int .u64 t297, .int .u64 t298]] (by rfl) rfl rfl (by (try simp only [mmT, mmC, mmN]); first | done | rfl | (simp only [ddD, ddT]; rfl)) ?_
            with_reducible refine (frac_Cmp.calls k t291 t292 t293 t296 t297 t298 t299 _ A73.out).mono ?_
            rintro e w100 ⟨rfl, hb⟩
            refine ⟨_, rfl, ?_⟩
            replace HO279 := aaM (rrB (by (with_reducible repeat (first | apply rrA | apply rrN | apply rrD)); exact HO279.out) hb)
            replace HO283 := aaM (rrB (by (with_reducible repeat (first | apply rrA | apply rrN | apply rrD)); exact HO283.out) hb)
            replace HO287 := aaM (rrB (by (with_reducible repeat (first | apply rrA | apply rrN | apply rrD)); exact HO287.out) hb)
            replace BK274 := aaM (bX hb BK274.out)
            replace BK275 := aaM (bX hb BK275.out)
            replace BK294 := aaM (bX hb BK294.out)
            replace HB := aaM (lP (by repeat (first | (with_reducible first | exact HB.out | apply lA | apply lN | apply lD | refine lS ?_ GE274.out | refine lS ?_ GE275.out | refine lS ?_ GE294.out) | exact HB.out)) hb)
            (try clear hb)
            (try clear hb2)
            (try clear hk)
            (try clear hi)
            refine hK.out _ _ ⟨(bC BK294.out 0).trans rfl, (bC BK294.out 1).trans rfl, (bC BK294.out 2).trans rfl⟩ (fun hHeld => ?_)
            clear hK K
            refine norm_ (a' := ?_) ?_ ?_
            rotate_left
            ·show Act.put _ (some 90) _ = _
             simp only [Act.put, ssB, ssZ, ssS, i64_w, i32_w]
             rfl
            refine pure_ (i := 8) (N := some 91) (v := ?_) (a' := ?_) #[true, true, true, true, true, true, true, true, true, false] rfl rfl (any_of HT_.out (by kernel_rfl)) (fun _ _ _ h => h) (Or.inl ⟨by rfl, ?_⟩) ?_ ?_
            rotate_left
            ·intro w'
             go_simp
             with_reducible rfl
            rotate_left
            ·simp only [Act.put, ssB, ssZ, ssS, i64_w, i32_w]
             rfl
            refine pure_ (i := 9) (N := some 92) (v := ?_) (a' := ?_) #[true, true, true, true, true, true, true, true, true, true] rfl rfl (any_of HT_.out (by kernel_rfl)) (fun _ _ _ h => h) (Or.inl ⟨by rfl, ?_⟩) ?_ ?_
            rotate_left
            ·intro w'
             go_simp
             with_reducible rfl
            rotate_left
            ·simp only [Act.put, ssB, ssZ, ssS, i64_w, i32_w]
             rfl
            refine done_ (done_of HT_.out (by kernel_rfl)) ?_
            obtain ⟨hcz101_0, hcz101_1, hcz101_2, hfz101_0, hfz101_1, hfz101_2⟩ := bE3 BK275.out
            try go_wp2
            refine bodyPost_ret (results_ct rfl _ _ gb275 32 #[.int .u64 0, .int .u64 0, .int .u64 0] (0, 0) _ rfl (by (with_reducible repeat (first | refine bN ?_ _ | refine bD ?_ | refine bA ?_ _)); refine blk_put (cs := #[.int .u64 0, .int .u64 0, .int .u64 0]) ?_ 2 _ rfl; (with_reducible repeat (first | refine bN ?_ _ | refine bD ?_ | refine bA ?_ _)); refine blk_put (cs := #[.int .u64 0, .int .u64 0, .int .u64 0]) ?_ 1 _ rfl; (with_reducible repeat (first | refine bN ?_ _ | refine bD ?_ | refine bA ?_ _)); refine blk_put (cs := #[.int .u64 0, .int .u64 0, .int .u64 0]) ?_ 0 _ rfl; (with_reducible repeat (first | refine bN ?_ _ | refine bD ?_ | refine bA ?_ _)); exact BK275.out) Try.underlying32 rfl (by kernel_rfl)) rfl ?_
            exact ⟨by first | rfl | (simp [errW_none, errW_some] <;> rfl) | (simp [*, errW_none, errW_some] <;> rfl), by repeat (first | (with_reducible first | exact HB.out | apply lA | apply lN | apply lD | refine lS ?_ GE274.out | refine lS ?_ GE275.out | refine lS ?_ GE294.out) | exact HB.out)⟩
           ·rw [if_neg c74] at H
            have c74b0 : decide (t299 ≤ 0) = false := decide_eq_false c74
            clear c74
            simp only [Option.some.injEq, Prod.mk.injEq] at H
            obtain ⟨rfl, rfl, rfl, rfl⟩ := H
            obtain ⟨Ao113, co113, eo113⟩ := Kd.R_slice HO283.out
            subst eo113
            try go_wp2_with (first | (go_at_call 80; (with_reducible refine (split_classes_size.calls k _ _ t281 t289 _ ?side1 ?side2 A35.out).mono ?_); (case side1 => repeat (first | exact (Kd.R_reads' HO283.out).2.2 | (with_reducible refine ccA ?_ _) | (with_reducible refine ccN ?_ _) | (with_reducible refine ccD ?_))); (case side2 => exact (Kd.R_reads' HO283.out).2.1); rintro e w114 ⟨rfl, hb⟩; replace HO279 := aaM (rrB (by (with_reducible repeat (first | apply rrA | apply rrN | apply rrD)); exact HO279.out) hb); replace HO283 := aaM (rrB (by (with_reducible repeat (first | apply rrA | apply rrN | apply rrD)); exact HO283.out) hb); replace HO287 := aaM (rrB (by (with_reducible repeat (first | apply rrA | apply rrN | apply rrD)); exact HO287.out) hb); replace BK274 := aaM (bX hb BK274.out); replace BK275 := aaM (bX hb BK275.out); replace HB := aaM (lP (by repeat (first | (with_reducible first | exact HB.out | apply lA | apply lN | apply lD | refine lS ?_ GE274.out | refine lS ?_ GE275.out) | exact HB.out)) hb); (try clear hb); (try clear hb2); (try clear hk); (try clear hi); obtain ⟨Ao115, co115, eo115⟩ := Kd.R_slice HO287.out; subst eo115) | (go_at_call 80; (with_reducible refine (split_classes_size.calls k _ _ t285 t290 _ ?side1 ?side2 A51.out).mono ?_); (case side1 => repeat (first | exact (Kd.R_reads' HO287.out).2.2 | (with_reducible refine ccA ?_ _) | (with_reducible refine ccN ?_ _) | (with_reducible refine ccD ?_))); (case side2 => exact (Kd.R_reads' HO287.out).2.1); rintro e w116 ⟨rfl, hb⟩; replace HO279 := aaM (rrB (by (with_reducible repeat (first | apply rrA | apply rrN | apply rrD)); exact HO279.out) hb); replace HO283 := aaM (rrB (by (with_reducible repeat (first | apply rrA | apply rrN | apply rrD)); exact HO283.out) hb); replace HO287 := aaM (rrB (by (with_reducible repeat (first | apply rrA | apply rrN | apply rrD)); exact HO287.out) hb); replace BK274 := aaM (bX hb BK274.out); replace BK275 := aaM (bX hb BK275.out); replace HB := aaM (lP (by repeat (first | (with_reducible first | exact HB.out | apply lA | apply lN | apply lD | refine lS ?_ GE274.out | refine lS ?_ GE275.out) | exact HB.out)) hb); (try clear hb); (try clear hb2); (try clear hk); (try clear hi)) | ((with_reducible refine gate_dst (N := 82) rfl ?_); refine goesIL_ (T := 81) (some 82) rfl rfl Try.func79 (by kernel_rfl) rfl #[.iface 81 (.agg #[.slice Ao115 t285.length co115])] #[.agg #[.slice Ao113 t281.length co113], .iface 81 (.agg #[.slice Ao115 t285.length co115])] rfl (split_CutC.mscore _ _) rfl rfl (by first | rfl | simp [Act.eval]) ?_; (with_reducible refine (split_classes_score.calls k _ _ t281 _ _ t285 t291 t292 t293 _ ?side1 ?side2 ?side3 ?side4 A69.out).mono ?_); (case side1 => repeat (first | exact (Kd.R_reads' HO283.out).2.2 | (with_reducible refine ccA ?_ _) | (with_reducible refine ccN ?_ _) | (with_reducible refine ccD ?_))); (case side2 => exact (Kd.R_reads' HO283.out).2.1); (case side3 => repeat (first | exact (Kd.R_reads' HO287.out).2.2 | (with_reducible refine ccA ?_ _) | (with_reducible refine ccN ?_ _) | (with_reducible refine ccD ?_))); (case side4 => exact (Kd.R_reads' HO287.out).2.1); rintro e w117 ⟨rfl, hb⟩; refine ⟨_, rfl, ?_⟩; replace HO279 := aaM (rrB (by (with_reducible repeat (first | apply rrA | apply rrN | apply rrD)); exact HO279.out) hb); replace HO283 := aaM (rrB (by (with_reducible repeat (first | apply rrA | apply rrN | apply rrD)); exact HO283.out) hb); replace HO287 := aaM (rrB (by (with_reducible repeat (first | apply rrA | apply rrN | apply rrD)); exact HO287.out) hb); replace BK274 := aaM (bX hb BK274.out); replace BK275 := aaM (bX hb BK275.out); replace HB := aaM (lP (by repeat (first | (with_reducible first | exact HB.out | apply lA | apply lN | apply lD | refine lS ?_ GE274.out | refine lS ?_ GE275.out) | exact HB.out)) hb); (try clear hb); (try clear hb2); (try clear hk); (try clear hi)) | ((with_reducible refine gate_dst (N := 14) rfl ?_); refine box_event ?hg (N := 14) ?hd (cs := #[.int .u64 0, .int .u64 0, .int .u64 0]) (t := 32) ?hr ?_; (case hd => rfl); (case hg => rfl); (case hr => first | (go_simp; done) | (go_simp; rfl)); intro gb294 hg w118 hbox hb; have hP_ := lQ (by repeat (first | (with_reducible first | exact HB.out | apply lA | apply lN | apply lD | refine lS ?_ GE274.out | refine lS ?_ GE275.out) | exact HB.out)) hb; replace HO279 := aaM (rrB (by (with_reducible repeat (first | apply rrA | apply rrN | apply rrD)); exact HO279.out) hb); replace HO283 := aaM (rrB (by (with_reducible repeat (first | apply rrA | apply rrN | apply rrD)); exact HO283.out) hb); replace HO287 := aaM (rrB (by (with_reducible repeat (first | apply rrA | apply rrN | apply rrD)); exact HO287.out) hb); replace HB := aaM hP_.1; have BK294 := aaM (hbox); have GW294 := aaM (gQ hg hP_.2); have GE294 := aaM (gQ hg hP_.2); have NB274_294 := aaM (nL hg BK274.out); have NB294_274 := aaM (nL hg BK274.out).symm; replace BK274 := aaM (bX hb BK274.out); have NB275_294 := aaM (nL hg BK275.out); have NB294_275 := aaM (nL hg BK275.out).symm; replace BK275 := aaM (bX hb BK275.out); clear hP_ hb hbox hg; have hnb119 := NB294_274.out; have hnc119 := NB274_294.out; have hnb120 := NB294_275.out; have hnc120 := NB275_294.out; obtain ⟨hcz121_0, hcz121_1, hcz121_2, hfz121_0, hfz121_1, hfz121_2⟩ := bE3 BK294.out))
            have n0_ : Aside0 (Kd.R (Kd.int .i64) 2 (((w118.setCell ⟨gb294, 0, none⟩ (.int .u64 t291)).setCell ⟨gb294, 1, none⟩ (.int .u64 t292)).setCell ⟨gb294, 2, none⟩ (.int .u64 t293)) w.heap.size (fun k_ => some k_ ≠ (.slice Ao113 t281.length co113 : Value).ownBlock ∧ some k_ ≠ (.slice Ao115 t285.length co115 : Value).ownBlock) v278 t277) := ⟨by (with_reducible repeat (first | apply rrA | apply rrN | apply rrD)); exact Kd.R_mono (rrF (p := ⟨gb294, 2, none⟩) (rrF (p := ⟨gb294, 1, none⟩) (rrF (p := ⟨gb294, 0, none⟩) (Kd.R_types HO279.out BK294.out (by decide)) (fun _ hk => hk.2) (.int .u64 t291)) (fun _ hk => hk.2) (.int .u64 t292)) (fun _ hk => hk.2) (.int .u64 t293)) (fun _ hk => ⟨hk.1.1.2, hk.1.2⟩)⟩
            have n1_ : Aside0 (Kd.R (Kd.int .i64) 2 (((w118.setCell ⟨gb294, 0, none⟩ (.int .u64 t291)).setCell ⟨gb294, 1, none⟩ (.int .u64 t292)).setCell ⟨gb294, 2, none⟩ (.int .u64 t293)) w.heap.size (fun k_ => some k_ ≠ (v278 : Value).ownBlock ∧ some k_ ≠ (.slice Ao115 t285.length co115 : Value).ownBlock) (.slice Ao113 t281.length co113) t281) := ⟨by (with_reducible repeat (first | apply rrA | apply rrN | apply rrD)); exact Kd.R_mono (rrF (p := ⟨gb294, 2, none⟩) (rrF (p := ⟨gb294, 1, none⟩) (rrF (p := ⟨gb294, 0, none⟩) (Kd.R_types HO283.out BK294.out (by decide)) (fun _ hk => hk.2) (.int .u64 t291)) (fun _ hk => hk.2) (.int .u64 t292)) (fun _ hk => hk.2) (.int .u64 t293)) (fun _ hk => ⟨hk.1.1.2, hk.1.2⟩)⟩
            have n2_ : Aside0 (Kd.R (Kd.int .i64) 2 (((w118.setCell ⟨gb294, 0, none⟩ (.int .u64 t291)).setCell ⟨gb294, 1, none⟩ (.int .u64 t292)).setCell ⟨gb294, 2, none⟩ (.int .u64 t293)) w.heap.size (fun k_ => some k_ ≠ (v278 : Value).ownBlock ∧ some k_ ≠ (.slice Ao113 t281.length co113 : Value).ownBlock) (.slice Ao115 t285.length co115) t285) := ⟨by (with_reducible repeat (first | apply rrA | apply rrN | apply rrD)); exact Kd.R_mono (rrF (p := ⟨gb294, 2, none⟩) (rrF (p := ⟨gb294, 1, none⟩) (rrF (p := ⟨gb294, 0, none⟩) (Kd.R_types HO287.out BK294.out (by decide)) (fun _ hk => hk.2) (.int .u64 t291)) (fun _ hk => hk.2) (.int .u64 t292)) (fun _ hk => hk.2) (.int .u64 t293)) (fun _ hk => ⟨hk.1.1.2, hk.1.2⟩)⟩
            have n3_ : Aside0 ((((w118.setCell ⟨gb294, 0, none⟩ (.int .u64 t291)).setCell ⟨gb294, 1, none⟩ (.int .u64 t292)).setCell ⟨gb294, 2, none⟩ (.int .u64 t293)).heap[gb274]? = some (.cells #[.int .i64 a0_0, .int .i64 a0_1, .int .i64 a0_2, .slice A0_3 l0_3.length c0_3, .slice A0_4 l0_4.length c0_4] 25 (0, 0))) := ⟨by (with_reducible repeat (first | refine bN ?_ _ | refine bD ?_ | refine bA ?_ _)); refine blk_far ?_ NB274_294.out _; (with_reducible repeat (first | refine bN ?_ _ | refine bD ?_ | refine bA ?_ _)); refine blk_far ?_ NB274_294.out _; (with_reducible repeat (first | refine bN ?_ _ | refine bD ?_ | refine bA ?_ _)); refine blk_far ?_ NB274_294.out _; (with_reducible repeat (first | refine bN ?_ _ | refine bD ?_ | refine bA ?_ _)); exact BK274.out⟩
            have n4_ : Aside0 ((((w118.setCell ⟨gb294, 0, none⟩ (.int .u64 t291)).setCell ⟨gb294, 1, none⟩ (.int .u64 t292)).setCell ⟨gb294, 2, none⟩ (.int .u64 t293)).heap[gb275]? = some (.cells #[.int .u64 0, .int .u64 0, .int .u64 0] 32 (0, 0))) := ⟨by (with_reducible repeat (first | refine bN ?_ _ | refine bD ?_ | refine bA ?_ _)); refine blk_far ?_ NB275_294.out _; (with_reducible repeat (first | refine bN ?_ _ | refine bD ?_ | refine bA ?_ _)); refine blk_far ?_ NB275_294.out _; (with_reducible repeat (first | refine bN ?_ _ | refine bD ?_ | refine bA ?_ _)); refine blk_far ?_ NB275_294.out _; (with_reducible repeat (first | refine bN ?_ _ | refine bD ?_ | refine bA ?_ _)); exact BK275.out⟩
            have n5_ : Aside0 ((((w118.setCell ⟨gb294, 0, none⟩ (.int .u64 t291)).setCell ⟨gb294, 1, none⟩ (.int .u64 t292)).setCell ⟨gb294, 2, none⟩ (.int .u64 t293)).heap[gb294]? = some (.cells #[.int .u64 t291, .int .u64 t292, .int .u64 t293] 32 (0, 0))) := ⟨by (with_reducible repeat (first | refine bN ?_ _ | refine bD ?_ | refine bA ?_ _)); refine blk_put (cs := #[.int .u64 t291, .int .u64 t292, .int .u64 0]) ?_ 2 _ rfl; (with_reducible repeat (first | refine bN ?_ _ | refine bD ?_ | refine bA ?_ _)); refine blk_put (cs := #[.int .u64 t291, .int .u64 0, .int .u64 0]) ?_ 1 _ rfl; (with_reducible repeat (first | refine bN ?_ _ | refine bD ?_ | refine bA ?_ _)); refine blk_put (cs := #[.int .u64 0, .int .u64 0, .int .u64 0]) ?_ 0 _ rfl; (with_reducible repeat (first | refine bN ?_ _ | refine bD ?_ | refine bA ?_ _)); exact BK294.out⟩
            have n6_ : Aside0 (Below w.heap.size w (((w118.setCell ⟨gb294, 0, none⟩ (.int .u64 t291)).setCell ⟨gb294, 1, none⟩ (.int .u64 t292)).setCell ⟨gb294, 2, none⟩ (.int .u64 t293))) := ⟨by repeat (first | (with_reducible first | exact HB.out | apply lA | apply lN | apply lD | refine lS ?_ GE274.out | refine lS ?_ GE275.out | refine lS ?_ GE294.out) | exact HB.out)⟩
            (try clear HO279)
            (try clear HO283)
            (try clear HO287)
            (try clear BK274)
            (try clear BK275)
            (try clear BK294)
            (try clear HB)
            generalize (((w118.setCell ⟨gb294, 0, none⟩ (.int .u64 t291)).setCell ⟨gb294, 1, none⟩ (.int .u64 t292)).setCell ⟨gb294, 2, none⟩ (.int .u64 t293)) = w122 at n0_ n1_ n2_ n3_ n4_ n5_ n6_ ⊢
            have HO279 := n0_
            have HO283 := n1_
            have HO287 := n2_
            have BK274 := n3_
            have BK275 := n4_
            have BK294 := n5_
            have HB := n6_
            clear n0_ n1_ n2_ n3_ n4_ n5_ n6_
            replace HO279 := aaM (rrD HO279.out)
            replace HO283 := aaM (rrD HO283.out)
            replace HO287 := aaM (rrD HO287.out)
            replace BK274 := aaM (bD BK274.out)
            replace BK275 := aaM (bD BK275.out)
            replace BK294 := aaM (bD BK294.out)
            replace HB := aaM (lD HB.out)
            refine start_ (n := 10) (S := fun w' => w'.cell? ⟨gb294, 0, none⟩ = some (.int .u64 t291) ∧ w'.cell? ⟨gb294, 1, none⟩ = some (.int .u64 t292) ∧ w'.cell? ⟨gb294, 2, none⟩ = some (.int .u64 t293)) (ds := []) #[false, false, false, false, false, false, false, false, false, false] (by kernel_rfl) rfl rfl ⟨(bC BK294.out 0).trans rfl, (bC BK294.out 1).trans rfl, (bC BK294.out 2).trans rfl⟩ (fun hHeld => ?_); refine with_tabW split_CutC.tab9 split_CutC.bits9 (fun HT_ HW_ => ?_)
            generalize w122.drew = w123 at HO279 HO283 HO287 BK274 BK275 BK294 HB hHeld ⊢
            refine take_ (i := 0) (N := some 83) (v := ?_) (a' := ?_) #[true, false, false, false, false, false, false, false, false, false] rfl rfl (take_ofW HT_.out HW_.out (by kernel_rfl)) (fun _ _ _ h => h) (Or.inl ⟨by rfl, ?_⟩) hHeld ?_ ?_
            rotate_left
            ·rintro w' ⟨s0, s1, s2⟩
             go_simp
             with_reducible rfl
            rotate_left
            ·simp only [Act.put, ssB, ssZ, ssS, i64_w, i32_w]
             rfl
            refine one_ (i := 1) (N := some 84) #[true, true, false, false, false, false, false, false, false, false] rfl rfl (one_of HT_.out (by kernel_rfl)) (by decide) (fun K hK => ?_)
            refine goes_ Try.func20 (by kernel_rfl) rfl #[.agg #[.int .u64 t291, .int .u64 t292, .int .u64 t293]] (by rfl) rfl rfl (by (try simp only [mmT, mmC, mmN]); first | done | rfl | (simp only [ddD, ddT]; rfl)) ?_
            with_reducible refine (frac_Right.calls t291 t292 t293 true _ A70.out).mono ?_
            rintro e w124 ⟨rfl, hb⟩
            refine ⟨_, rfl, ?_⟩
            replace HO279 := aaM (rrB (by (with_reducible repeat (first | apply rrA | apply rrN | apply rrD)); exact HO279.out) hb)
            replace HO283 := aaM (rrB (by (with_reducible repeat (first | apply rrA | apply rrN | apply rrD)); exact HO283.out) hb)
            replace HO287 := aaM (rrB (by (with_reducible repeat (first | apply rrA | apply rrN | apply rrD)); exact HO287.out) hb)
            replace BK274 := aaM (bX hb BK274.out)
            replace BK275 := aaM (bX hb BK275.out)
            replace BK294 := aaM (bX hb BK294.out)
            replace HB := aaM (lP (by repeat (first | (with_reducible first | exact HB.out | apply lA | apply lN | apply lD | refine lS ?_ GE274.out | refine lS ?_ GE275.out | refine lS ?_ GE294.out) | exact HB.out)) hb)
            (try clear hb)
            (try clear hb2)
            (try clear hk)
            (try clear hi)
            obtain ⟨Ao125, co125, eo125⟩ := Kd.R_slice HO279.out
            (first | subst eo125 | (injection eo125 with f1_ f2_ f3_; have f4_ := f1_.symm; have f5_ := f3_.symm; clear f1_ f2_ f3_; subst f4_; subst f5_))
            refine hK.out _ _ ⟨(bC BK294.out 0).trans rfl, (bC BK294.out 1).trans rfl, (bC BK294.out 2).trans rfl⟩ (fun hHeld => ?_)
            clear hK K
            refine norm_ (a' := ?_) ?_ ?_
            rotate_left
            ·show Act.put _ (some 84) _ = _
             simp only [Act.put, ssB, ssZ, ssS, i64_w, i32_w]
             rfl
            refine pure_ (i := 2) (N := some 85) (v := ?_) (a' := ?_) #[true, true, true, false, false, false, false, false, false, false] rfl rfl (any_of HT_.out (by kernel_rfl)) (fun _ _ _ h => h) (Or.inl ⟨by rfl, ?_⟩) ?_ ?_
            rotate_left
            ·intro w'
             go_simp
             with_reducible rfl
            rotate_left
            ·simp only [Act.put, ssB, ssZ, ssS, i64_w, i32_w]
             rfl
            refine pure_ (i := 3) (N := some 86) (v := ?_) (a' := ?_) #[true, true, true, true, false, false, false, false, false, false] rfl rfl (any_of HT_.out (by kernel_rfl)) (fun _ _ _ h => h) (Or.inl ⟨by rfl, ?_⟩) ?_ ?_
            rotate_left
            ·intro w'
             go_simp
             with_reducible rfl
            rotate_left
            ·simp only [Act.put, ssB, ssZ, ssS, i64_w, i32_w]
             rfl
            refine pure_ (i := 5) (N := some 88) (v := ?_) (a' := ?_) #[true, true, true, true, false, true, false, false, false, false] rfl rfl (any_of HT_.out (by kernel_rfl)) (fun _ _ _ h => h) (Or.inl ⟨by rfl, ?_⟩) ?_ ?_
            rotate_left
            ·intro w'
             go_simp
             with_reducible rfl
            rotate_left
            ·simp only [Act.put, ssB, ssZ, ssS, i64_w, i32_w]
             rfl
            refine take_ (i := 4) (N := some 87) (v := ?_) (a' := ?_) #[true, true, true, true, true, true, false, false, false, false] rfl rfl (take_ofW HT_.out HW_.out (by kernel_rfl)) (fun _ _ _ h => h) (Or.inl ⟨by rfl, ?_⟩) hHeld ?_ ?_
            rotate_left
            ·rintro w' ⟨s0, s1, s2⟩
             go_simp
             with_reducible rfl
            rotate_left
            ·simp only [Act.put, ssB, ssZ, ssS, i64_w, i32_w]
             rfl
            refine one_ (i := 6) (N := some 89) #[true, true, true, true, true, true, true, false, false, false] rfl rfl (one_of HT_.out (by kernel_rfl)) (by decide) (fun K hK => ?_)
            refine goesI_ (T := 81) Try.func78 (by kernel_rfl) rfl #[] #[.agg #[.slice Ao125 t277.length co125]] rfl (split_CutC.malone _ _) (by rfl) rfl rfl rfl (by simp) ?_
            with_reducible refine (split_classes_alone.calls k _ _ t277 t296 t297 t298 _ ?side1 ?side2 A72.out).mono ?_
            (case side1 => repeat (first | exact (Kd.R_reads' HO279.out).2.2 | (with_reducible refine ccA ?_ _) | (with_reducible refine ccN ?_ _) | (with_reducible refine ccD ?_)))
            (case side2 => exact (Kd.R_reads' HO279.out).2.1)
            rintro e w126 ⟨rfl, hb⟩
            refine ⟨_, rfl, ?_⟩
            replace HO279 := aaM (rrB (by (with_reducible repeat (first | apply rrA | apply rrN | apply rrD)); exact HO279.out) hb)
            replace HO283 := aaM (rrB (by (with_reducible repeat (first | apply rrA | apply rrN | apply rrD)); exact HO283.out) hb)
            replace HO287 := aaM (rrB (by (with_reducible repeat (first | apply rrA | apply rrN | apply rrD)); exact HO287.out) hb)
            replace BK274 := aaM (bX hb BK274.out)
            replace BK275 := aaM (bX hb BK275.out)
            replace BK294 := aaM (bX hb BK294.out)
            replace HB := aaM (lP (by repeat (first | (with_reducible first | exact HB.out | apply lA | apply lN | apply lD | refine lS ?_ GE274.out | refine lS ?_ GE275.out | refine lS ?_ GE294.out) | exact HB.out)) hb)
            (try clear hb)
            (try clear hb2)
            (try clear hk)
            (try clear hi)
            refine hK.out _ _ ⟨(bC BK294.out 0).trans rfl, (bC BK294.out 1).trans rfl, (bC BK294.out 2).trans rfl⟩ (fun hHeld => ?_)
            clear hK K
            refine norm_ (a' := ?_) ?_ ?_
            rotate_left
            ·show Act.put _ (some 89) _ = _
             simp only [Act.put, ssB, ssZ, ssS, i64_w, i32_w]
             rfl
            refine one_ (i := 7) (N := some 90) #[true, true, true, true, true, true, true, true, false, false] rfl rfl (one_of HT_.out (by kernel_rfl)) (by decide) (fun K hK => ?_)
            refine goes_ Try.func21 (by kernel_rfl) rfl #[.agg #[.int .u64 t291, .int .u64 t292, .int .u64 t293], .agg #[.int .u64 t296, .int .u64 t297, .int .u64 t298]] (by rfl) rfl rfl (by (try simp only [mmT, mmC, mmN]); first | done | rfl | (simp only [ddD, ddT]; rfl)) ?_
            with_reducible refine (frac_Cmp.calls k t291 t292 t293 t296 t297 t298 t299 _ A73.out).mono ?_
            rintro e w127 ⟨rfl, hb⟩
            refine ⟨_, rfl, ?_⟩
            replace HO279 := aaM (rrB (by (with_reducible repeat (first | apply rrA | apply rrN | apply rrD)); exact HO279.out) hb)
            replace HO283 := aaM (rrB (by (with_reducible repeat (first | apply rrA | apply rrN | apply rrD)); exact HO283.out) hb)
            replace HO287 := aaM (rrB (by (with_reducible repeat (first | apply rrA | apply rrN | apply rrD)); exact HO287.out) hb)
            replace BK274 := aaM (bX hb BK274.out)
            replace BK275 := aaM (bX hb BK275.out)
            replace BK294 := aaM (bX hb BK294.out)
            replace HB := aaM (lP (by repeat (first | (with_reducible first | exact HB.out | apply lA | apply lN | apply lD | refine lS ?_ GE274.out | refine lS ?_ GE275.out | refine lS ?_ GE294.out) | exact HB.out)) hb)
            (try clear hb)
            (try clear hb2)
            (try clear hk)
            (try clear hi)
            refine hK.out _ _ ⟨(bC BK294.out 0).trans rfl, (bC BK294.out 1).trans rfl, (bC BK294.out 2).trans rfl⟩ (fun hHeld => ?_)
            clear hK K
            refine norm_ (a' := ?_) ?_ ?_
            rotate_left
            ·show Act.put _ (some 90) _ = _
             simp only [Act.put, ssB, ssZ, ssS, i64_w, i32_w]
             rfl
            refine pure_ (i := 8) (N := some 91) (v := ?_) (a' := ?_) #[true, true, true, true, true, true, true, true, true, false] rfl rfl (any_of HT_.out (by kernel_rfl)) (fun _ _ _ h => h) (Or.inl ⟨by rfl, ?_⟩) ?_ ?_
            rotate_left
            ·intro w'
             go_simp
             with_reducible rfl
            rotate_left
            ·simp only [Act.put, ssB, ssZ, ssS, i64_w, i32_w]
             rfl
            refine pure_ (i := 9) (N := some 92) (v := ?_) (a' := ?_) #[true, true, true, true, true, true, true, true, true, true] rfl rfl (any_of HT_.out (by kernel_rfl)) (fun _ _ _ h => h) (Or.inl ⟨by rfl, ?_⟩) ?_ ?_
            rotate_left
            ·intro w'
             go_simp
             with_reducible rfl
            rotate_left
            ·simp only [Act.put, ssB, ssZ, ssS, i64_w, i32_w]
             rfl
            refine done_ (done_of HT_.out (by kernel_rfl)) ?_
            obtain ⟨hcz128_0, hcz128_1, hcz128_2, hfz128_0, hfz128_1, hfz128_2⟩ := bE3 BK294.out
            obtain ⟨hcz129_0, hcz129_1, hcz129_2, hfz129_0, hfz129_1, hfz129_2⟩ := bE3 BK275.out
            try go_wp2
            refine bodyPost_ret (results_ct rfl _ _ gb275 32 #[.int .u64 t291, .int .u64 t292, .int .u64 t293] (0, 0) _ rfl (by (with_reducible repeat (first | refine bN ?_ _ | refine bD ?_ | refine bA ?_ _)); refine blk_put (cs := #[.int .u64 t291, .int .u64 t292, .int .u64 0]) ?_ 2 _ rfl; (with_reducible repeat (first | refine bN ?_ _ | refine bD ?_ | refine bA ?_ _)); refine blk_put (cs := #[.int .u64 t291, .int .u64 0, .int .u64 0]) ?_ 1 _ rfl; (with_reducible repeat (first | refine bN ?_ _ | refine bD ?_ | refine bA ?_ _)); refine blk_put (cs := #[.int .u64 0, .int .u64 0, .int .u64 0]) ?_ 0 _ rfl; (with_reducible repeat (first | refine bN ?_ _ | refine bD ?_ | refine bA ?_ _)); exact BK275.out) Try.underlying32 rfl (by kernel_rfl)) rfl ?_
            exact ⟨by first | rfl | (simp [errW_none, errW_some] <;> rfl) | (simp [*, errW_none, errW_some] <;> rfl), by repeat (first | (with_reducible first | exact HB.out | apply lA | apply lN | apply lD | refine lS ?_ GE274.out | refine lS ?_ GE275.out | refine lS ?_ GE294.out) | exact HB.out)⟩
          ·replace c71 := Bool.eq_false_iff.mpr c71
           subst c71
           have H1 : (some (0, 0, 0, false)) = some (r1, r2, r3, r4) := by rw [if_neg (show ¬ (false = true) by decide)] at H; exact H
           clear H
           have H := H1
           clear H1
           simp only [Option.some.injEq, Prod.mk.injEq] at H
           obtain ⟨rfl, rfl, rfl, rfl⟩ := H
           obtain ⟨Ao141, co141, eo141⟩ := Kd.R_slice HO283.out
           subst eo141
           try go_wp2_with (first | (go_at_call 80; (with_reducible refine (split_classes_size.calls k _ _ t281 t289 _ ?side1 ?side2 A35.out).mono ?_); (case side1 => repeat (first | exact (Kd.R_reads' HO283.out).2.2 | (with_reducible refine ccA ?_ _) | (with_reducible refine ccN ?_ _) | (with_reducible refine ccD ?_))); (case side2 => exact (Kd.R_reads' HO283.out).2.1); rintro e w142 ⟨rfl, hb⟩; replace HO279 := aaM (rrB (by (with_reducible repeat (first | apply rrA | apply rrN | apply rrD)); exact HO279.out) hb); replace HO283 := aaM (rrB (by (with_reducible repeat (first | apply rrA | apply rrN | apply rrD)); exact HO283.out) hb); replace HO287 := aaM (rrB (by (with_reducible repeat (first | apply rrA | apply rrN | apply rrD)); exact HO287.out) hb); replace BK274 := aaM (bX hb BK274.out); replace BK275 := aaM (bX hb BK275.out); replace HB := aaM (lP (by repeat (first | (with_reducible first | exact HB.out | apply lA | apply lN | apply lD | refine lS ?_ GE274.out | refine lS ?_ GE275.out) | exact HB.out)) hb); (try clear hb); (try clear hb2); (try clear hk); (try clear hi); obtain ⟨Ao143, co143, eo143⟩ := Kd.R_slice HO287.out; subst eo143) | (go_at_call 80; (with_reducible refine (split_classes_size.calls k _ _ t285 t290 _ ?side1 ?side2 A51.out).mono ?_); (case side1 => repeat (first | exact (Kd.R_reads' HO287.out).2.2 | (with_reducible refine ccA ?_ _) | (with_reducible refine ccN ?_ _) | (with_reducible refine ccD ?_))); (case side2 => exact (Kd.R_reads' HO287.out).2.1); rintro e w144 ⟨rfl, hb⟩; replace HO279 := aaM (rrB (by (with_reducible repeat (first | apply rrA | apply rrN | apply rrD)); exact HO279.out) hb); replace HO283 := aaM (rrB (by (with_reducible repeat (first | apply rrA | apply rrN | apply rrD)); exact HO283.out) hb); replace HO287 := aaM (rrB (by (with_reducible repeat (first | apply rrA | apply rrN | apply rrD)); exact HO287.out) hb); replace BK274 := aaM (bX hb BK274.out); replace BK275 := aaM (bX hb BK275.out); replace HB := aaM (lP (by repeat (first | (with_reducible first | exact HB.out | apply lA | apply lN | apply lD | refine lS ?_ GE274.out | refine lS ?_ GE275.out) | exact HB.out)) hb); (try clear hb); (try clear hb2); (try clear hk); (try clear hi)) | ((with_reducible refine gate_dst (N := 82) rfl ?_); refine goesIL_ (T := 81) (some 82) rfl rfl Try.func79 (by kernel_rfl) rfl #[.iface 81 (.agg #[.slice Ao143 t285.length co143])] #[.agg #[.slice Ao141 t281.length co141], .iface 81 (.agg #[.slice Ao143 t285.length co143])] rfl (split_CutC.mscore _ _) rfl rfl (by first | rfl | simp [Act.eval]) ?_; (with_reducible refine (split_classes_score.calls k _ _ t281 _ _ t285 t291 t292 t293 _ ?side1 ?side2 ?side3 ?side4 A69.out).mono ?_); (case side1 => repeat (first | exact (Kd.R_reads' HO283.out).2.2 | (with_reducible refine ccA ?_ _) | (with_reducible refine ccN ?_ _) | (with_reducible refine ccD ?_))); (case side2 => exact (Kd.R_reads' HO283.out).2.1); (case side3 => repeat (first | exact (Kd.R_reads' HO287.out).2.2 | (with_reducible refine ccA ?_ _) | (with_reducible refine ccN ?_ _) | (with_reducible refine ccD ?_))); (case side4 => exact (Kd.R_reads' HO287.out).2.1); rintro e w145 ⟨rfl, hb⟩; refine ⟨_, rfl, ?_⟩; replace HO279 := aaM (rrB (by (with_reducible repeat (first | apply rrA | apply rrN | apply rrD)); exact HO279.out) hb); replace HO283 := aaM (rrB (by (with_reducible repeat (first | apply rrA | apply rrN | apply rrD)); exact HO283.out) hb); replace HO287 := aaM (rrB (by (with_reducible repeat (first | apply rrA | apply rrN | apply rrD)); exact HO287.out) hb); replace BK274 := aaM (bX hb BK274.out); replace BK275 := aaM (bX hb BK275.out); replace HB := aaM (lP (by repeat (first | (with_reducible first | exact HB.out | apply lA | apply lN | apply lD | refine lS ?_ GE274.out | refine lS ?_ GE275.out) | exact HB.out)) hb); (try clear hb); (try clear hb2); (try clear hk); (try clear hi)) | ((with_reducible refine gate_dst (N := 14) rfl ?_); refine box_event ?hg (N := 14) ?hd (cs := #[.int .u64 0, .int .u64 0, .int .u64 0]) (t := 32) ?hr ?_; (case hd => rfl); (case hg => rfl); (case hr => first | (go_simp; done) | (go_simp; rfl)); intro gb294 hg w146 hbox hb; have hP_ := lQ (by repeat (first | (with_reducible first | exact HB.out | apply lA | apply lN | apply lD | refine lS ?_ GE274.out | refine lS ?_ GE275.out) | exact HB.out)) hb; replace HO279 := aaM (rrB (by (with_reducible repeat (first | apply rrA | apply rrN | apply rrD)); exact HO279.out) hb); replace HO283 := aaM (rrB (by (with_reducible repeat (first | apply rrA | apply rrN | apply rrD)); exact HO283.out) hb); replace HO287 := aaM (rrB (by (with_reducible repeat (first | apply rrA | apply rrN | apply rrD)); exact HO287.out) hb); replace HB := aaM hP_.1; have BK294 := aaM (hbox); have GW294 := aaM (gQ hg hP_.2); have GE294 := aaM (gQ hg hP_.2); have NB274_294 := aaM (nL hg BK274.out); have NB294_274 := aaM (nL hg BK274.out).symm; replace BK274 := aaM (bX hb BK274.out); have NB275_294 := aaM (nL hg BK275.out); have NB294_275 := aaM (nL hg BK275.out).symm; replace BK275 := aaM (bX hb BK275.out); clear hP_ hb hbox hg; have hnb147 := NB294_274.out; have hnc147 := NB274_294.out; have hnb148 := NB294_275.out; have hnc148 := NB275_294.out; obtain ⟨hcz149_0, hcz149_1, hcz149_2, hfz149_0, hfz149_1, hfz149_2⟩ := bE3 BK294.out))
           have n0_ : Aside0 (Kd.R (Kd.int .i64) 2 (((w146.setCell ⟨gb294, 0, none⟩ (.int .u64 t291)).setCell ⟨gb294, 1, none⟩ (.int .u64 t292)).setCell ⟨gb294, 2, none⟩ (.int .u64 t293)) w.heap.size (fun k_ => some k_ ≠ (.slice Ao141 t281.length co141 : Value).ownBlock ∧ some k_ ≠ (.slice Ao143 t285.length co143 : Value).ownBlock) v278 t277) := ⟨by (with_reducible repeat (first | apply rrA | apply rrN | apply rrD)); exact Kd.R_mono (rrF (p := ⟨gb294, 2, none⟩) (rrF (p := ⟨gb294, 1, none⟩) (rrF (p := ⟨gb294, 0, none⟩) (Kd.R_types HO279.out BK294.out (by decide)) (fun _ hk => hk.2) (.int .u64 t291)) (fun _ hk => hk.2) (.int .u64 t292)) (fun _ hk => hk.2) (.int .u64 t293)) (fun _ hk => ⟨hk.1.1.2, hk.1.2⟩)⟩
           have n1_ : Aside0 (Kd.R (Kd.int .i64) 2 (((w146.setCell ⟨gb294, 0, none⟩ (.int .u64 t291)).setCell ⟨gb294, 1, none⟩ (.int .u64 t292)).setCell ⟨gb294, 2, none⟩ (.int .u64 t293)) w.heap.size (fun k_ => some k_ ≠ (v278 : Value).ownBlock ∧ some k_ ≠ (.slice Ao143 t285.length co143 : Value).ownBlock) (.slice Ao141 t281.length co141) t281) := ⟨by (with_reducible repeat (first | apply rrA | apply rrN | apply rrD)); exact Kd.R_mono (rrF (p := ⟨gb294, 2, none⟩) (rrF (p := ⟨gb294, 1, none⟩) (rrF (p := ⟨gb294, 0, none⟩) (Kd.R_types HO283.out BK294.out (by decide)) (fun _ hk => hk.2) (.int .u64 t291)) (fun _ hk => hk.2) (.int .u64 t292)) (fun _ hk => hk.2) (.int .u64 t293)) (fun _ hk => ⟨hk.1.1.2, hk.1.2⟩)⟩
           have n2_ : Aside0 (Kd.R (Kd.int .i64) 2 (((w146.setCell ⟨gb294, 0, none⟩ (.int .u64 t291)).setCell ⟨gb294, 1, none⟩ (.int .u64 t292)).setCell ⟨gb294, 2, none⟩ (.int .u64 t293)) w.heap.size (fun k_ => some k_ ≠ (v278 : Value).ownBlock ∧ some k_ ≠ (.slice Ao141 t281.length co141 : Value).ownBlock) (.slice Ao143 t285.length co143) t285) := ⟨by (with_reducible repeat (first | apply rrA | apply rrN | apply rrD)); exact Kd.R_mono (rrF (p := ⟨gb294, 2, none⟩) (rrF (p := ⟨gb294, 1, none⟩) (rrF (p := ⟨gb294, 0, none⟩) (Kd.R_types HO287.out BK294.out (by decide)) (fun _ hk => hk.2) (.int .u64 t291)) (fun _ hk => hk.2) (.int .u64 t292)) (fun _ hk => hk.2) (.int .u64 t293)) (fun _ hk => ⟨hk.1.1.2, hk.1.2⟩)⟩
           have n3_ : Aside0 ((((w146.setCell ⟨gb294, 0, none⟩ (.int .u64 t291)).setCell ⟨gb294, 1, none⟩ (.int .u64 t292)).setCell ⟨gb294, 2, none⟩ (.int .u64 t293)).heap[gb274]? = some (.cells #[.int .i64 a0_0, .int .i64 a0_1, .int .i64 a0_2, .slice A0_3 l0_3.length c0_3, .slice A0_4 l0_4.length c0_4] 25 (0, 0))) := ⟨by (with_reducible repeat (first | refine bN ?_ _ | refine bD ?_ | refine bA ?_ _)); refine blk_far ?_ NB274_294.out _; (with_reducible repeat (first | refine bN ?_ _ | refine bD ?_ | refine bA ?_ _)); refine blk_far ?_ NB274_294.out _; (with_reducible repeat (first | refine bN ?_ _ | refine bD ?_ | refine bA ?_ _)); refine blk_far ?_ NB274_294.out _; (with_reducible repeat (first | refine bN ?_ _ | refine bD ?_ | refine bA ?_ _)); exact BK274.out⟩
           have n4_ : Aside0 ((((w146.setCell ⟨gb294, 0, none⟩ (.int .u64 t291)).setCell ⟨gb294, 1, none⟩ (.int .u64 t292)).setCell ⟨gb294, 2, none⟩ (.int .u64 t293)).heap[gb275]? = some (.cells #[.int .u64 0, .int .u64 0, .int .u64 0] 32 (0, 0))) := ⟨by (with_reducible repeat (first | refine bN ?_ _ | refine bD ?_ | refine bA ?_ _)); refine blk_far ?_ NB275_294.out _; (with_reducible repeat (first | refine bN ?_ _ | refine bD ?_ | refine bA ?_ _)); refine blk_far ?_ NB275_294.out _; (with_reducible repeat (first | refine bN ?_ _ | refine bD ?_ | refine bA ?_ _)); refine blk_far ?_ NB275_294.out _; (with_reducible repeat (first | refine bN ?_ _ | refine bD ?_ | refine bA ?_ _)); exact BK275.out⟩
           have n5_ : Aside0 ((((w146.setCell ⟨gb294, 0, none⟩ (.int .u64 t291)).setCell ⟨gb294, 1, none⟩ (.int .u64 t292)).setCell ⟨gb294, 2, none⟩ (.int .u64 t293)).heap[gb294]? = some (.cells #[.int .u64 t291, .int .u64 t292, .int .u64 t293] 32 (0, 0))) := ⟨by (with_reducible repeat (first | refine bN ?_ _ | refine bD ?_ | refine bA ?_ _)); refine blk_put (cs := #[.int .u64 t291, .int .u64 t292, .int .u64 0]) ?_ 2 _ rfl; (with_reducible repeat (first | refine bN ?_ _ | refine bD ?_ | refine bA ?_ _)); refine blk_put (cs := #[.int .u64 t291, .int .u64 0, .int .u64 0]) ?_ 1 _ rfl; (with_reducible repeat (first | refine bN ?_ _ | refine bD ?_ | refine bA ?_ _)); refine blk_put (cs := #[.int .u64 0, .int .u64 0, .int .u64 0]) ?_ 0 _ rfl; (with_reducible repeat (first | refine bN ?_ _ | refine bD ?_ | refine bA ?_ _)); exact BK294.out⟩
           have n6_ : Aside0 (Below w.heap.size w (((w146.setCell ⟨gb294, 0, none⟩ (.int .u64 t291)).setCell ⟨gb294, 1, none⟩ (.int .u64 t292)).setCell ⟨gb294, 2, none⟩ (.int .u64 t293))) := ⟨by repeat (first | (with_reducible first | exact HB.out | apply lA | apply lN | apply lD | refine lS ?_ GE274.out | refine lS ?_ GE275.out | refine lS ?_ GE294.out) | exact HB.out)⟩
           (try clear HO279)
           (try clear HO283)
           (try clear HO287)
           (try clear BK274)
           (try clear BK275)
           (try clear BK294)
           (try clear HB)
           generalize (((w146.setCell ⟨gb294, 0, none⟩ (.int .u64 t291)).setCell ⟨gb294, 1, none⟩ (.int .u64 t292)).setCell ⟨gb294, 2, none⟩ (.int .u64 t293)) = w150 at n0_ n1_ n2_ n3_ n4_ n5_ n6_ ⊢
           have HO279 := n0_
           have HO283 := n1_
           have HO287 := n2_
           have BK274 := n3_
           have BK275 := n4_
           have BK294 := n5_
           have HB := n6_
           clear n0_ n1_ n2_ n3_ n4_ n5_ n6_
           replace HO279 := aaM (rrD HO279.out)
           replace HO283 := aaM (rrD HO283.out)
           replace HO287 := aaM (rrD HO287.out)
           replace BK274 := aaM (bD BK274.out)
           replace BK275 := aaM (bD BK275.out)
           replace BK294 := aaM (bD BK294.out)
           replace HB := aaM (lD HB.out)
           refine start_ (n := 10) (S := fun w' => w'.cell? ⟨gb294, 0, none⟩ = some (.int .u64 t291) ∧ w'.cell? ⟨gb294, 1, none⟩ = some (.int .u64 t292) ∧ w'.cell? ⟨gb294, 2, none⟩ = some (.int .u64 t293)) (ds := []) #[false, false, false, false, false, false, false, false, false, false] (by kernel_rfl) rfl rfl ⟨(bC BK294.out 0).trans rfl, (bC BK294.out 1).trans rfl, (bC BK294.out 2).trans rfl⟩ (fun hHeld => ?_); refine with_tabW split_CutC.tab9 split_CutC.bits9 (fun HT_ HW_ => ?_)
           generalize w150.drew = w151 at HO279 HO283 HO287 BK274 BK275 BK294 HB hHeld ⊢
           refine take_ (i := 0) (N := some 83) (v := ?_) (a' := ?_) #[true, false, false, false, false, false, false, false, false, false] rfl rfl (take_ofW HT_.out HW_.out (by kernel_rfl)) (fun _ _ _ h => h) (Or.inl ⟨by rfl, ?_⟩) hHeld ?_ ?_
           rotate_left
           ·rintro w' ⟨s0, s1, s2⟩
            go_simp
            with_reducible rfl
           rotate_left
           ·simp only [Act.put, ssB, ssZ, ssS, i64_w, i32_w]
            rfl
           refine one_ (i := 1) (N := some 84) #[true, true, false, false, false, false, false, false, false, false] rfl rfl (one_of HT_.out (by kernel_rfl)) (by decide) (fun K hK => ?_)
           refine goes_ Try.func20 (by kernel_rfl) rfl #[.agg #[.int .u64 t291, .int .u64 t292, .int .u64 t293]] (by rfl) rfl rfl (by (try simp only [mmT, mmC, mmN]); first | done | rfl | (simp only [ddD, ddT]; rfl)) ?_
           with_reducible refine (frac_Right.calls t291 t292 t293 false _ A70.out).mono ?_
           rintro e w152 ⟨rfl, hb⟩
           refine ⟨_, rfl, ?_⟩
           replace HO279 := aaM (rrB (by (with_reducible repeat (first | apply rrA | apply rrN | apply rrD)); exact HO279.out) hb)
           replace HO283 := aaM (rrB (by (with_reducible repeat (first | apply rrA | apply rrN | apply rrD)); exact HO283.out) hb)
           replace HO287 := aaM (rrB (by (with_reducible repeat (first | apply rrA | apply rrN | apply rrD)); exact HO287.out) hb)
           replace BK274 := aaM (bX hb BK274.out)
           replace BK275 := aaM (bX hb BK275.out)
           replace BK294 := aaM (bX hb BK294.out)
           replace HB := aaM (lP (by repeat (first | (with_reducible first | exact HB.out | apply lA | apply lN | apply lD | refine lS ?_ GE274.out | refine lS ?_ GE275.out | refine lS ?_ GE294.out) | exact HB.out)) hb)
           (try clear hb)
           (try clear hb2)
           (try clear hk)
           (try clear hi)
           refine hK.out _ _ ⟨(bC BK294.out 0).trans rfl, (bC BK294.out 1).trans rfl, (bC BK294.out 2).trans rfl⟩ (fun hHeld => ?_)
           clear hK K
           refine norm_ (a' := ?_) ?_ ?_
           rotate_left
           ·show Act.put _ (some 84) _ = _
            simp only [Act.put, ssB, ssZ, ssS, i64_w, i32_w]
            rfl
           refine pure_ (i := 2) (N := some 85) (v := ?_) (a' := ?_) #[true, true, true, false, false, false, false, false, false, false] rfl rfl (any_of HT_.out (by kernel_rfl)) (fun _ _ _ h => h) (Or.inl ⟨by rfl, ?_⟩) ?_ ?_
           rotate_left
           ·intro w'
            go_simp
            with_reducible rfl
           rotate_left
           ·simp only [Act.put, ssB, ssZ, ssS, i64_w, i32_w]
            rfl
           refine pure_ (i := 3) (N := some 86) (v := ?_) (a' := ?_) #[true, true, true, true, false, false, false, false, false, false] rfl rfl (any_of HT_.out (by kernel_rfl)) (fun _ _ _ h => h) (Or.inl ⟨by rfl, ?_⟩) ?_ ?_
           rotate_left
           ·intro w'
            go_simp
            with_reducible rfl
           rotate_left
           ·simp only [Act.put, ssB, ssZ, ssS, i64_w, i32_w]
            rfl
           refine pure_ (i := 4) (N := some 87) (v := undef) (a' := ?_) #[true, true, true, true, true, false, false, false, false, false] rfl rfl (any_of HT_.out (by kernel_rfl)) (fun _ _ _ h => h) (Or.inr ⟨by rfl, rfl⟩) ?_ ?_
           rotate_left
           ·simp only [Act.put, ssB, ssZ, ssS, i64_w, i32_w]
            rfl
           refine pure_ (i := 5) (N := some 88) (v := undef) (a' := ?_) #[true, true, true, true, true, true, false, false, false, false] rfl rfl (any_of HT_.out (by kernel_rfl)) (fun _ _ _ h => h) (Or.inr ⟨by rfl, rfl⟩) ?_ ?_
           rotate_left
           ·simp only [Act.put, ssB, ssZ, ssS, i64_w, i32_w]
            rfl
           refine pure_ (i := 6) (N := some 89) (v := undef) (a' := ?_) #[true, true, true, true, true, true, true, false, false, false] rfl rfl (any_of HT_.out (by kernel_rfl)) (fun _ _ _ h => h) (Or.inr ⟨by rfl, rfl⟩) ?_ ?_
           rotate_left
           ·simp only [Act.put, ssB, ssZ, ssS, i64_w, i32_w]
            rfl
           refine pure_ (i := 7) (N := some 90) (v := undef) (a' := ?_) #[true, true, true, true, true, true, true, true, false, false] rfl rfl (any_of HT_.out (by kernel_rfl)) (fun _ _ _ h => h) (Or.inr ⟨by rfl, rfl⟩) ?_ ?_
           rotate_left
           ·simp only [Act.put, ssB, ssZ, ssS, i64_w, i32_w]
            rfl
           refine pure_ (i := 8) (N := some 91) (v := undef) (a' := ?_) #[true, true, true, true, true, true, true, true, true, false] rfl rfl (any_of HT_.out (by kernel_rfl)) (fun _ _ _ h => h) (Or.inr ⟨by rfl, rfl⟩) ?_ ?_
           rotate_left
           ·simp only [Act.put, ssB, ssZ, ssS, i64_w, i32_w]
            rfl
           refine pure_ (i := 9) (N := some 92) (v := ?_) (a' := ?_) #[true, true, true, true, true, true, true, true, true, true] rfl rfl (any_of HT_.out (by kernel_rfl)) (fun _ _ _ h => h) (Or.inl ⟨by rfl, ?_⟩) ?_ ?_
           rotate_left
           ·intro w'
            go_simp
            with_reducible rfl
           rotate_left
           ·simp only [Act.put, ssB, ssZ, ssS, i64_w, i32_w]
            rfl
           refine done_ (done_of HT_.out (by kernel_rfl)) ?_
           obtain ⟨hcz153_0, hcz153_1, hcz153_2, hfz153_0, hfz153_1, hfz153_2⟩ := bE3 BK275.out
           try go_wp2
           refine bodyPost_ret (results_ct rfl _ _ gb275 32 #[.int .u64 0, .int .u64 0, .int .u64 0] (0, 0) _ rfl (by (with_reducible repeat (first | refine bN ?_ _ | refine bD ?_ | refine bA ?_ _)); refine blk_put (cs := #[.int .u64 0, .int .u64 0, .int .u64 0]) ?_ 2 _ rfl; (with_reducible repeat (first | refine bN ?_ _ | refine bD ?_ | refine bA ?_ _)); refine blk_put (cs := #[.int .u64 0, .int .u64 0, .int .u64 0]) ?_ 1 _ rfl; (with_reducible repeat (first | refine bN ?_ _ | refine bD ?_ | refine bA ?_ _)); refine blk_put (cs := #[.int .u64 0, .int .u64 0, .int .u64 0]) ?_ 0 _ rfl; (with_reducible repeat (first | refine bN ?_ _ | refine bD ?_ | refine bA ?_ _)); exact BK275.out) Try.underlying32 rfl (by kernel_rfl)) rfl ?_
           exact ⟨by first | rfl | (simp [errW_none, errW_some] <;> rfl) | (simp [*, errW_none, errW_some] <;> rfl), by repeat (first | (with_reducible first | exact HB.out | apply lA | apply lN | apply lD | refine lS ?_ GE274.out | refine lS ?_ GE275.out | refine lS ?_ GE294.out) | exact HB.out)⟩
       ·replace c34 := Bool.eq_false_iff.mpr c34
        subst c34
        have H1 : (some (0, 0, 0, false)) = some (r1, r2, r3, r4) := by rw [if_neg (show ¬ (false = true) by decide)] at H; exact H
        clear H
        have H := H1
        clear H1
        simp only [Option.some.injEq, Prod.mk.injEq] at H
        obtain ⟨rfl, rfl, rfl, rfl⟩ := H
        obtain ⟨hcz165_0, hcz165_1, hcz165_2, hfz165_0, hfz165_1, hfz165_2⟩ := bE3 BK275.out
        go_wp2
        refine bodyPost_ret (results_ct rfl _ _ gb275 32 #[.int .u64 0, .int .u64 0, .int .u64 0] (0, 0) _ rfl (by (with_reducible repeat (first | refine bN ?_ _ | refine bD ?_ | refine bA ?_ _)); refine blk_put (cs := #[.int .u64 0, .int .u64 0, .int .u64 0]) ?_ 2 _ rfl; (with_reducible repeat (first | refine bN ?_ _ | refine bD ?_ | refine bA ?_ _)); refine blk_put (cs := #[.int .u64 0, .int .u64 0, .int .u64 0]) ?_ 1 _ rfl; (with_reducible repeat (first | refine bN ?_ _ | refine bD ?_ | refine bA ?_ _)); refine blk_put (cs := #[.int .u64 0, .int .u64 0, .int .u64 0]) ?_ 0 _ rfl; (with_reducible repeat (first | refine bN ?_ _ | refine bD ?_ | refine bA ?_ _)); exact BK275.out) Try.underlying32 rfl (by kernel_rfl)) rfl ?_
        exact ⟨by first | rfl | (simp [errW_none, errW_some] <;> rfl) | (simp [*, errW_none, errW_some] <;> rfl), by repeat (first | (with_reducible first | exact HB.out | apply lA | apply lN | apply lD | refine lS ?_ GE274.out | refine lS ?_ GE275.out) | exact HB.out)⟩
      ·replace c33 := Bool.eq_false_iff.mpr c33
       subst c33
       have H1 : (some (0, 0, 0, false)) = some (r1, r2, r3, r4) := by rw [if_neg (show ¬ (false = true) by decide)] at H; exact H
       clear H
       have H := H1
       clear H1
       simp only [Option.some.injEq, Prod.mk.injEq] at H
       obtain ⟨rfl, rfl, rfl, rfl⟩ := H
       obtain ⟨hcz177_0, hcz177_1, hcz177_2, hfz177_0, hfz177_1, hfz177_2⟩ := bE3 BK275.out
       go_wp2
       refine bodyPost_ret (results_ct rfl _ _ gb275 32 #[.int .u64 0, .int .u64 0, .int .u64 0] (0, 0) _ rfl (by (with_reducible repeat (first | refine bN ?_ _ | refine bD ?_ | refine bA ?_ _)); refine blk_put (cs := #[.int .u64 0, .int .u64 0, .int .u64 0]) ?_ 2 _ rfl; (with_reducible repeat (first | refine bN ?_ _ | refine bD ?_ | refine bA ?_ _)); refine blk_put (cs := #[.int .u64 0, .int .u64 0, .int .u64 0]) ?_ 1 _ rfl; (with_reducible repeat (first | refine bN ?_ _ | refine bD ?_ | refine bA ?_ _)); refine blk_put (cs := #[.int .u64 0, .int .u64 0, .int .u64 0]) ?_ 0 _ rfl; (with_reducible repeat (first | refine bN ?_ _ | refine bD ?_ | refine bA ?_ _)); exact BK275.out) Try.underlying32 rfl (by kernel_rfl)) rfl ?_
       exact ⟨by first | rfl | (simp [errW_none, errW_some] <;> rfl) | (simp [*, errW_none, errW_some] <;> rfl), by repeat (first | (with_reducible first | exact HB.out | apply lA | apply lN | apply lD | refine lS ?_ GE274.out | refine lS ?_ GE275.out) | exact HB.out)⟩
     ·replace c32 := Bool.eq_false_iff.mpr c32
      subst c32
      have H1 : (some (0, 0, 0, false)) = some (r1, r2, r3, r4) := by rw [if_neg (show ¬ (false = true) by decide)] at H; exact H
      clear H
      have H := H1
      clear H1
      simp only [Option.some.injEq, Prod.mk.injEq] at H
      obtain ⟨rfl, rfl, rfl, rfl⟩ := H
      obtain ⟨hcz189_0, hcz189_1, hcz189_2, hfz189_0, hfz189_1, hfz189_2⟩ := bE3 BK275.out
      go_wp2
      refine bodyPost_ret (results_ct rfl _ _ gb275 32 #[.int .u64 0, .int .u64 0, .int .u64 0] (0, 0) _ rfl (by (with_reducible repeat (first | refine bN ?_ _ | refine bD ?_ | refine bA ?_ _)); refine blk_put (cs := #[.int .u64 0, .int .u64 0, .int .u64 0]) ?_ 2 _ rfl; (with_reducible repeat (first | refine bN ?_ _ | refine bD ?_ | refine bA ?_ _)); refine blk_put (cs := #[.int .u64 0, .int .u64 0, .int .u64 0]) ?_ 1 _ rfl; (with_reducible repeat (first | refine bN ?_ _ | refine bD ?_ | refine bA ?_ _)); refine blk_put (cs := #[.int .u64 0, .int .u64 0, .int .u64 0]) ?_ 0 _ rfl; (with_reducible repeat (first | refine bN ?_ _ | refine bD ?_ | refine bA ?_ _)); exact BK275.out) Try.underlying32 rfl (by kernel_rfl)) rfl ?_
      exact ⟨by first | rfl | (simp [errW_none, errW_some] <;> rfl) | (simp [*, errW_none, errW_some] <;> rfl), by repeat (first | (with_reducible first | exact HB.out | apply lA | apply lN | apply lD | refine lS ?_ GE274.out | refine lS ?_ GE275.out) | exact HB.out)⟩
 ·replace c5 := Bool.eq_false_iff.mpr c5
  subst c5
  have H1 : (some (0, 0, 0, false)) = some (r1, r2, r3, r4) := by rw [if_neg (show ¬ (false = true) by decide)] at H; exact H
  clear H
  have H := H1
  clear H1
  simp only [Option.some.injEq, Prod.mk.injEq] at H
  obtain ⟨rfl, rfl, rfl, rfl⟩ := H
  go_enter Try.func10, Try.ntmps10
  go_wp2_with (first | ((with_reducible refine gate_dst (N := 3) rfl ?_); refine box_event ?hg (N := 3) ?hd (cs := #[.int .i64 a0_0, .int .i64 a0_1, .int .i64 a0_2, .slice A0_3 l0_3.length c0_3, .slice A0_4 l0_4.length c0_4]) (t := 25) ?hr ?_; (case hd => rfl); (case hg => rfl); (case hr => first | (go_simp; done) | (go_simp; rfl)); intro gb274 hg w190 hbox hb; have hP_ := lQ (by repeat (first | (with_reducible first | exact HB.out | apply lA | apply lN | apply lD) | exact HB.out)) hb; replace HB := aaM hP_.1; have BK274 := aaM (hbox); have GW274 := aaM (gQ hg hP_.2); have GE274 := aaM (gQ hg hP_.2); clear hP_ hb hbox hg) | ((with_reducible refine gate_dst (N := 6) rfl ?_); refine box_event ?hg (N := 6) ?hd (cs := #[.int .u64 0, .int .u64 0, .int .u64 0]) (t := 32) ?hr ?_; (case hd => rfl); (case hg => rfl); (case hr => first | (go_simp; done) | (go_simp; rfl)); intro gb275 hg w191 hbox hb; have hP_ := lQ (by repeat (first | (with_reducible first | exact HB.out | apply lA | apply lN | apply lD | refine lS ?_ GE274.out) | exact HB.out)) hb; replace HB := aaM hP_.1; have BK275 := aaM (hbox); have GW275 := aaM (gQ hg hP_.2); have GE275 := aaM (gQ hg hP_.2); have NB274_275 := aaM (nL hg BK274.out); have NB275_274 := aaM (nL hg BK274.out).symm; replace BK274 := aaM (bX hb BK274.out); clear hP_ hb hbox hg; have hnb192 := NB274_275.out; have hnc192 := NB275_274.out; obtain ⟨hcz193_0, hcz193_1, hcz193_2, hcz193_3, hcz193_4, hfz193_0, hfz193_1, hfz193_2, hfz193_3, hfz193_4⟩ := bE5 BK274.out) | ((with_reducible refine gate_callee (f := 18) rfl ?_); refine goesL_ (some 16) rfl rfl Try.func18 (by kernel_rfl) rfl #[.agg #[.int .i64 a0_0, .int .i64 a0_1, .int .i64 a0_2, .slice A0_3 l0_3.length c0_3, .slice A0_4 l0_4.length c0_4]] rfl (by (try simp only [mmT, mmC, mmN]); first | done | rfl | (simp only [ddD, ddT]; rfl)) ?_; (with_reducible refine (hist_Right.calls a0_0 a0_1 a0_2 _ _ l0_3 _ _ l0_4 false _ ?side1 ?side2 ?side3 ?side4 A4.out).mono ?_); (case side1 => repeat (first | exact (ccB HR0_3.out HB.out) | (with_reducible refine ccA ?_ _) | (with_reducible refine ccN ?_ _) | (with_reducible refine ccD ?_))); (case side2 => exact HC0_3.out); (case side3 => repeat (first | exact (ccB HR0_4.out HB.out) | (with_reducible refine ccA ?_ _) | (with_reducible refine ccN ?_ _) | (with_reducible refine ccD ?_))); (case side4 => exact HC0_4.out); rintro e w194 ⟨rfl, hb⟩; refine ⟨_, rfl, ?_⟩; replace BK274 := aaM (bX hb BK274.out); replace BK275 := aaM (bX hb BK275.out); replace HB := aaM (lP (by repeat (first | (with_reducible first | exact HB.out | apply lA | apply lN | apply lD | refine lS ?_ GE274.out | refine lS ?_ GE275.out) | exact HB.out)) hb); (try clear hb); (try clear hb2); (try clear hk); (try clear hi); obtain ⟨hcz195_0, hcz195_1, hcz195_2, hfz195_0, hfz195_1, hfz195_2⟩ := bE3 BK275.out))
  refine bodyPost_ret (results_ct rfl _ _ gb275 32 #[.int .u64 0, .int .u64 0, .int .u64 0] (0, 0) _ rfl (by (with_reducible repeat (first | refine bN ?_ _ | refine bD ?_ | refine bA ?_ _)); refine blk_put (cs := #[.int .u64 0, .int .u64 0, .int .u64 0]) ?_ 2 _ rfl; (with_reducible repeat (first | refine bN ?_ _ | refine bD ?_ | refine bA ?_ _)); refine blk_put (cs := #[.int .u64 0, .int .u64 0, .int .u64 0]) ?_ 1 _ rfl; (with_reducible repeat (first | refine bN ?_ _ | refine bD ?_ | refine bA ?_ _)); refine blk_put (cs := #[.int .u64 0, .int .u64 0, .int .u64 0]) ?_ 0 _ rfl; (with_reducible repeat (first | refine bN ?_ _ | refine bD ?_ | refine bA ?_ _)); exact BK275.out) Try.underlying32 rfl (by kernel_rfl)) rfl ?_
  exact ⟨by first | rfl | (simp [errW_none, errW_some] <;> rfl) | (simp [*, errW_none, errW_some] <;> rfl), by repeat (first | (with_reducible first | exact HB.out | apply lA | apply lN | apply lD | refine lS ?_ GE274.out | refine lS ?_ GE275.out) | exact HB.out)⟩


end Go.Proofs.Ytancajnbjmcamaa.QSplitLeaf
