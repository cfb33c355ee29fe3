-- Written by a program of this session (wip/tools/mkprint.py over the kit's print); Lean checks it.
import Derived.Test.YtancajnbjmcamaaQSplitLeafx0
import Derived.Test.YtancajnbjmcamaaQSplitLeafx4
import Derived.Test.YtancajnbjmcamaaQSplitLeafx6
import Derived.Test.YtancajnbjmcamaaQSplitLeafx7
namespace Go.Proofs.Ytancajnbjmcamaa.QSplitLeaf
open Go.RowKit Go.Proofs.YtancajnbjmcamaaW.PrintWords Go.Proofs.YtancajnbjmcamaaW.PrintLast Go.Proofs.YtancajnbjmcamaaW.PrintMore
attribute [local go_sem] max2_int min2_int max_two min_two max_three min_three max_four min_four   -- for this text's walks alone
set_option linter.unusedVariables false
set_option linter.unusedSimpArgs false

/-! ### spread_Score: function 95 -/
def spread_Score.j0 : Nat → Bool → Int → Int → Int → Int → Int → Int → Option (Int × Int × Int)
 | 0, _, _, _, _, _, _, _ => none
 | k + 1, x14, x214000, x214001, x214002, x215000, x215001, x215002 => if x14 = true then (some (0, 0, 0)) else ((spread_side.f x214000 x214001 x214002 x215000 x215001 x215002).bind fun bt218 => ((spread_side.f x215000 x215001 x215002 x214000 x214001 x214002).bind fun bt220 => ((prod_Add.f bt218.1 bt218.2 bt220.1 bt220.2).bind fun bt222 => (some (bt222.1, bt222.2.1, IntKind.u64.wrap ((IntKind.u64.wrap (x214000)) * (IntKind.u64.wrap (x215000))))))))
def spread_Score.f (k : Nat) (a0_0 : Int) (a0_1 : Int) (a0_2 : Int) (a1_0 : Int) (a1_1 : Int) (a1_2 : Int) : Option (Int × Int × Int) := (spread_there.f k a0_0 a0_1 a0_2).bind fun t216 => (if t216 = true then ((spread_there.f k a1_0 a1_1 a1_2).bind fun t217 => (spread_Score.j0 k (!t217) a0_0 a0_1 a0_2 a1_0 a1_1 a1_2)) else (spread_Score.j0 k true a0_0 a0_1 a0_2 a1_0 a1_1 a1_2))
theorem spread_Score.mono_l : ∀ k, (∀ y0 y1 y2 y3 y4 y5 y6, LeO (spread_Score.j0 k y0 y1 y2 y3 y4 y5 y6) (spread_Score.j0 (k + 1) y0 y1 y2 y3 y4 y5 y6))
 | 0 => fun _ _ _ _ _ _ _ r h => by simp [spread_Score.j0] at h
 | k + 1 => by
  have ih0 := spread_Score.mono_l k
  ·intro y0 y1 y2 y3 y4 y5 y6
   unfold spread_Score.j0
   repeat' first
   | (with_reducible exact ih0 _ _ _ _ _ _ _)
   | (with_reducible exact spread_there.mono _ _ _ _)
   | (with_reducible exact LeO.refl _)
   | (with_reducible exact LeO.none _)
   | (with_reducible refine LeO.ite ?_ ?_)
   | (with_reducible refine LeO.bind ?_ (fun _ => ?_))
   | exact ih0 _ _ _ _ _ _ _
   | exact spread_there.mono _ _ _ _
   | exact LeO.none _
   | refine LeO.ite ?_ ?_
   | refine LeO.bind ?_ (fun _ => ?_)
theorem spread_Score.mono : ∀ a0 a1 a2 a3 a4 a5 k, LeO (spread_Score.f k a0 a1 a2 a3 a4 a5) (spread_Score.f (k + 1) a0 a1 a2 a3 a4 a5) := by
 intro a0 a1 a2 a3 a4 a5 k
 have ih0 := spread_Score.mono_l k
 unfold spread_Score.f
 repeat' first
   | (with_reducible exact ih0 _ _ _ _ _ _ _)
   | (with_reducible exact spread_there.mono _ _ _ _)
   | (with_reducible exact LeO.refl _)
   | (with_reducible exact LeO.none _)
   | (with_reducible refine LeO.ite ?_ ?_)
   | (with_reducible refine LeO.bind ?_ (fun _ => ?_))
   | exact ih0 _ _ _ _ _ _ _
   | exact spread_there.mono _ _ _ _
   | exact LeO.none _
   | refine LeO.ite ?_ ?_
   | refine LeO.bind ?_ (fun _ => ?_)
def spread_Score.T3 : Bool × List (List Nat × List Nat) := (true, [([], []), ([], []), ([0, 1], [0, 1]), ([], []), ([], []), ([3, 4, 2], [3, 4]), ([2, 5, 5], [2, 5]), ([6], [6]), ([7], [7]), ([7], [7]), ([], []), ([10, 8, 6, 0, 1, 2, 3, 4, 5, 6, 7, 8, 10], [8, 10]), ([9, 11, 0, 1, 2, 3, 4, 5, 6, 7, 8, 9, 10, 11], [9])])
def spread_Score.B3 : List Nat := [0, 0, 3, 0, 0, 31, 63, 127, 255, 255, 0, 1535, 4095]
theorem spread_Score.tab3 : rtab .any (opsOf Try.f95 3) = spread_Score.T3 := by kernel_rfl
theorem spread_Score.bits3 : waitsOk spread_Score.T3.2 spread_Score.B3 = true := by kernel_rfl
set_option maxHeartbeats 8000000 in
set_option maxRecDepth 100000 in
theorem spread_Score.calls (k : Nat) (a0_0 : Int) (a0_1 : Int) (a0_2 : Int) (a1_0 : Int) (a1_1 : Int) (a1_2 : Int) (r1 : Int) (r2 : Int) (r3 : Int) (w : World) (h : spread_Score.f k a0_0 a0_1 a0_2 a1_0 a1_1 a1_2 = some (r1, r2, r3)) :
  Calls Try.prog 95 #[.agg #[.int .i64 a0_0, .int .i64 a0_1, .int .i64 a0_2], .agg #[.int .i64 a1_0, .int .i64 a1_1, .int .i64 a1_2]] w fun e w' => e = .returned (.agg #[.int .u64 r1, .int .u64 r2, .int .u64 r3]) ∧ Below w.heap.size w w' := by
 have hu54 := Try.underlying54
 have hu32 := Try.underlying32
 have hu30 := Try.underlying30
 have HB := aaM (Below.refl w.heap.size w)
 have H : ((spread_there.f k a0_0 a0_1 a0_2).bind fun t216 => (if t216 = true then ((spread_there.f k a1_0 a1_1 a1_2).bind fun t217 => (spread_Score.j0 k (!t217) a0_0 a0_1 a0_2 a1_0 a1_1 a1_2)) else (spread_Score.j0 k true a0_0 a0_1 a0_2 a1_0 a1_1 a1_2))) = some (r1, r2, r3) := h
 clear h
 have HC3 := aaM H
 clear H
 go_enter Try.func95, Try.ntmps95
 go_upto_region 1 with (first | ((with_reducible refine gate_dst (N := 2) rfl ?_); refine box_event ?hg (N := 2) ?hd (cs := #[.int .i64 a0_0, .int .i64 a0_1, .int .i64 a0_2]) (t := 54) ?hr ?_; (case hd => rfl); (case hg => rfl); (case hr => first | (go_simp; done) | (go_simp; rfl)); intro gb213 hg w4 hbox hb; have hP_ := lQ (by repeat (first | (with_reducible first | exact HB.out | apply lA | apply lN | apply lD) | exact HB.out)) hb; replace HB := aaM hP_.1; have BK213 := aaM (hbox); have GW213 := aaM (gQ hg hP_.2); have GE213 := aaM (gQ hg hP_.2); clear hP_ hb hbox hg) | ((with_reducible refine gate_dst (N := 3) rfl ?_); refine box_event ?hg (N := 3) ?hd (cs := #[.int .i64 a1_0, .int .i64 a1_1, .int .i64 a1_2]) (t := 54) ?hr ?_; (case hd => rfl); (case hg => rfl); (case hr => first | (go_simp; done) | (go_simp; rfl)); intro gb214 hg w5 hbox hb; have hP_ := lQ (by repeat (first | (with_reducible first | exact HB.out | apply lA | apply lN | apply lD | refine lS ?_ GE213.out) | exact HB.out)) hb; replace HB := aaM hP_.1; have BK214 := aaM (hbox); have GW214 := aaM (gQ hg hP_.2); have GE214 := aaM (gQ hg hP_.2); have NB213_214 := aaM (nL hg BK213.out); have NB214_213 := aaM (nL hg BK213.out).symm; replace BK213 := aaM (bX hb BK213.out); clear hP_ hb hbox hg) | ((with_reducible refine gate_dst (N := 4) rfl ?_); refine box_event ?hg (N := 4) ?hd (cs := #[.int .u64 0, .int .u64 0, .int .u64 0]) (t := 32) ?hr ?_; (case hd => rfl); (case hg => rfl); (case hr => first | (go_simp; done) | (go_simp; rfl)); intro gb215 hg w6 hbox hb; have hP_ := lQ (by repeat (first | (with_reducible first | exact HB.out | apply lA | apply lN | apply lD | refine lS ?_ GE213.out | refine lS ?_ GE214.out) | exact HB.out)) hb; replace HB := aaM hP_.1; have BK215 := aaM (hbox); have GW215 := aaM (gQ hg hP_.2); have GE215 := aaM (gQ hg hP_.2); have NB213_215 := aaM (nL hg BK213.out); have NB215_213 := aaM (nL hg BK213.out).symm; replace BK213 := aaM (bX hb BK213.out); have NB214_215 := aaM (nL hg BK214.out); have NB215_214 := aaM (nL hg BK214.out).symm; replace BK214 := aaM (bX hb BK214.out); clear hP_ hb hbox hg))
 (try simp only [Act.put, ssB, ssZ, ssS])
 go_cut [14] (fun v14 wc => ∃ (kq : Nat) (x14_2 : Bool), v14 = .bool x14_2 ∧ Aside0 (spread_Score.j0 kq x14_2 a0_0 a0_1 a0_2 a1_0 a1_1 a1_2 = some (r1, r2, r3)) ∧ Aside0 (kq ≤ k) ∧ Aside0 (wc.heap[gb213]? = some (.cells #[.int .i64 a0_0, .int .i64 a0_1, .int .i64 a0_2] 54 (0, 0))) ∧ Aside0 (wc.heap[gb214]? = some (.cells #[.int .i64 a1_0, .int .i64 a1_1, .int .i64 a1_2] 54 (0, 0))) ∧ Aside0 (wc.heap[gb215]? = some (.cells #[.int .u64 0, .int .u64 0, .int .u64 0] 32 (0, 0))) ∧ Aside0 (Below w.heap.size w wc))
 case first =>
  have H := HC3.out
  clear HC3
  replace H := ooB.mp H
  obtain ⟨t216, A70, H⟩ := H
  replace H : (if t216 = true then ((spread_there.f k a1_0 a1_1 a1_2).bind fun t217 => (spread_Score.j0 k (!t217) a0_0 a0_1 a0_2 a1_0 a1_1 a1_2)) else (spread_Score.j0 k true a0_0 a0_1 a0_2 a1_0 a1_1 a1_2)) = some (r1, r2, r3) := H
  have A7 := aaM A70
  clear A70
  by_cases c8 : t216 = true
  ·subst c8
   have H1 : ((spread_there.f k a1_0 a1_1 a1_2).bind fun t217 => (spread_Score.j0 k (!t217) a0_0 a0_1 a0_2 a1_0 a1_1 a1_2)) = some (r1, r2, r3) := by rw [if_pos rfl] at H; exact H
   clear H
   have H := H1
   clear H1
   replace H := ooB.mp H
   obtain ⟨t217, A90, H⟩ := H
   replace H : (spread_Score.j0 k (!t217) a0_0 a0_1 a0_2 a1_0 a1_1 a1_2) = some (r1, r2, r3) := H
   have A9 := aaM A90
   clear A90
   have H' := aaM H
   clear H
   have hnb10 := NB213_214.out
   have hnc10 := NB214_213.out
   have hnb11 := NB213_215.out
   have hnc11 := NB215_213.out
   obtain ⟨hcz12_0, hcz12_1, hcz12_2, hfz12_0, hfz12_1, hfz12_2⟩ := bE3 BK213.out
   go_wp2_with (first | ((with_reducible refine gate_callee (f := 97) rfl ?_); refine goesL_ (some 8) rfl rfl Try.func97 (by kernel_rfl) rfl #[.agg #[.int .i64 a0_0, .int .i64 a0_1, .int .i64 a0_2]] rfl (by (try simp only [mmT, mmC, mmN]); first | done | rfl | (simp only [ddD, ddT]; rfl)) ?_; (with_reducible refine (spread_there.calls k a0_0 a0_1 a0_2 true _ A7.out).mono ?_); rintro e w13 ⟨rfl, hb⟩; refine ⟨_, rfl, ?_⟩; replace BK213 := aaM (bX hb BK213.out); replace BK214 := aaM (bX hb BK214.out); replace BK215 := aaM (bX hb BK215.out); replace HB := aaM (lP (by repeat (first | (with_reducible first | exact HB.out | apply lA | apply lN | apply lD | refine lS ?_ GE213.out | refine lS ?_ GE214.out | refine lS ?_ GE215.out) | exact HB.out)) hb); (try clear hb); (try clear hb2); (try clear hk); (try clear hi); have hnb14 := NB214_215.out; have hnc14 := NB215_214.out; obtain ⟨hcz15_0, hcz15_1, hcz15_2, hfz15_0, hfz15_1, hfz15_2⟩ := bE3 BK214.out) | (go_at_call 97; (with_reducible refine (spread_there.calls k a1_0 a1_1 a1_2 t217 _ A9.out).mono ?_); rintro e w16 ⟨rfl, hb⟩; replace BK213 := aaM (bX hb BK213.out); replace BK214 := aaM (bX hb BK214.out); replace BK215 := aaM (bX hb BK215.out); replace HB := aaM (lP (by repeat (first | (with_reducible first | exact HB.out | apply lA | apply lN | apply lD | refine lS ?_ GE213.out | refine lS ?_ GE214.out | refine lS ?_ GE215.out) | exact HB.out)) hb); (try clear hb); (try clear hb2); (try clear hk); (try clear hi)))
   go_meet
   case rel => exact ⟨_, (!t217), (by first | rfl | (simp; done) | (simp [*]; done)), H', ⟨by first | omega | exact Nat.le_refl _⟩, ⟨by (with_reducible repeat (first | refine bN ?_ _ | refine bD ?_ | refine bA ?_ _)); exact BK213.out⟩, ⟨by (with_reducible repeat (first | refine bN ?_ _ | refine bD ?_ | refine bA ?_ _)); exact BK214.out⟩, ⟨by (with_reducible repeat (first | refine bN ?_ _ | refine bD ?_ | refine bA ?_ _)); exact BK215.out⟩, ⟨by repeat (first | (with_reducible first | exact HB.out | apply lA | apply lN | apply lD | refine lS ?_ GE213.out | refine lS ?_ GE214.out | refine lS ?_ GE215.out) | exact HB.out)⟩⟩
  ·replace c8 := Bool.eq_false_iff.mpr c8
   subst c8
   have H1 : (spread_Score.j0 k true a0_0 a0_1 a0_2 a1_0 a1_1 a1_2) = some (r1, r2, r3) := by rw [if_neg (show ¬ (false = true) by decide)] at H; exact H
   clear H
   have H := H1
   clear H1
   have H' := aaM H
   clear H
   have hnb17 := NB213_214.out
   have hnc17 := NB214_213.out
   have hnb18 := NB213_215.out
   have hnc18 := NB215_213.out
   obtain ⟨hcz19_0, hcz19_1, hcz19_2, hfz19_0, hfz19_1, hfz19_2⟩ := bE3 BK213.out
   go_wp2_with (first | ((with_reducible refine gate_callee (f := 97) rfl ?_); refine goesL_ (some 8) rfl rfl Try.func97 (by kernel_rfl) rfl #[.agg #[.int .i64 a0_0, .int .i64 a0_1, .int .i64 a0_2]] rfl (by (try simp only [mmT, mmC, mmN]); first | done | rfl | (simp only [ddD, ddT]; rfl)) ?_; (with_reducible refine (spread_there.calls k a0_0 a0_1 a0_2 false _ A7.out).mono ?_); rintro e w20 ⟨rfl, hb⟩; refine ⟨_, rfl, ?_⟩; replace BK213 := aaM (bX hb BK213.out); replace BK214 := aaM (bX hb BK214.out); replace BK215 := aaM (bX hb BK215.out); replace HB := aaM (lP (by repeat (first | (with_reducible first | exact HB.out | apply lA | apply lN | apply lD | refine lS ?_ GE213.out | refine lS ?_ GE214.out | refine lS ?_ GE215.out) | exact HB.out)) hb); (try clear hb); (try clear hb2); (try clear hk); (try clear hi)))
   go_meet
   case rel => exact ⟨_, (true), (by first | rfl | (simp; done) | (simp [*]; done)), H', ⟨by first | omega | exact Nat.le_refl _⟩, ⟨by (with_reducible repeat (first | refine bN ?_ _ | refine bD ?_ | refine bA ?_ _)); exact BK213.out⟩, ⟨by (with_reducible repeat (first | refine bN ?_ _ | refine bD ?_ | refine bA ?_ _)); exact BK214.out⟩, ⟨by (with_reducible repeat (first | refine bN ?_ _ | refine bD ?_ | refine bA ?_ _)); exact BK215.out⟩, ⟨by repeat (first | (with_reducible first | exact HB.out | apply lA | apply lN | apply lD | refine lS ?_ GE213.out | refine lS ?_ GE214.out | refine lS ?_ GE215.out) | exact HB.out)⟩⟩
 case rest =>
  clear HC3
  try clear c1
  try clear p2
  try clear c8
  try clear c9
  try clear c10
  try clear c11
  try clear c14
  try clear c17
  try clear c18
  try clear hcz12_0
  try clear hcz12_1
  try clear hcz12_2
  try clear hcz15_0
  try clear hcz15_1
  try clear hcz15_2
  try clear hcz19_0
  try clear hcz19_1
  try clear hcz19_2
  try clear hfz12_0
  try clear hfz12_1
  try clear hfz12_2
  try clear hfz15_0
  try clear hfz15_1
  try clear hfz15_2
  try clear hfz19_0
  try clear hfz19_1
  try clear hfz19_2
  obtain ⟨kq, x14_2, rfl, HA, HJ2, BK213, BK214, BK215, HB⟩ := hcut
  cases kq with
  | zero => exact absurd HA.out (by simp [spread_Score.j0])
  | succ kj2 =>
   have H := HA.out
   clear HA
   simp only [spread_Score.j0] at H
   by_cases c21 : x14_2 = true
   ·subst c21
    have H1 : (some (0, 0, 0)) = some (r1, r2, r3) := by rw [if_pos rfl] at H; exact H
    clear H
    have H := H1
    clear H1
    simp only [Option.some.injEq, Prod.mk.injEq] at H
    obtain ⟨rfl, rfl, rfl⟩ := H
    have hnb22 := NB215_213.out
    have hnc22 := NB213_215.out
    have hnb23 := NB215_214.out
    have hnc23 := NB214_215.out
    obtain ⟨hcz24_0, hcz24_1, hcz24_2, hfz24_0, hfz24_1, hfz24_2⟩ := bE3 BK215.out
    go_wp2
    refine bodyPost_ret (results_cell_row rfl _ _ gb215 32 #[.int .u64 0, .int .u64 0, .int .u64 0] (0, 0) _ rfl (by (with_reducible repeat (first | refine bN ?_ _ | refine bD ?_ | refine bA ?_ _)); refine blk_put (cs := #[.int .u64 0, .int .u64 0, .int .u64 0]) ?_ 2 _ rfl; (with_reducible repeat (first | refine bN ?_ _ | refine bD ?_ | refine bA ?_ _)); refine blk_put (cs := #[.int .u64 0, .int .u64 0, .int .u64 0]) ?_ 1 _ rfl; (with_reducible repeat (first | refine bN ?_ _ | refine bD ?_ | refine bA ?_ _)); refine blk_put (cs := #[.int .u64 0, .int .u64 0, .int .u64 0]) ?_ 0 _ rfl; (with_reducible repeat (first | refine bN ?_ _ | refine bD ?_ | refine bA ?_ _)); exact BK215.out) Try.underlying32 rfl (by kernel_rfl)) rfl ?_
    exact ⟨by first | rfl | (simp [errW_none, errW_some] <;> rfl) | (simp [*, errW_none, errW_some] <;> rfl), by repeat (first | (with_reducible first | exact HB.out | apply lA | apply lN | apply lD | refine lS ?_ GE213.out | refine lS ?_ GE214.out | refine lS ?_ GE215.out) | exact HB.out)⟩
   ·replace c21 := Bool.eq_false_iff.mpr c21
    subst c21
    have H1 : ((spread_side.f a0_0 a0_1 a0_2 a1_0 a1_1 a1_2).bind fun bt218 => ((spread_side.f a1_0 a1_1 a1_2 a0_0 a0_1 a0_2).bind fun bt220 => ((prod_Add.f bt218.1 bt218.2 bt220.1 bt220.2).bind fun bt222 => (some (bt222.1, bt222.2.1, IntKind.u64.wrap ((IntKind.u64.wrap (a0_0)) * (IntKind.u64.wrap (a1_0)))))))) = some (r1, r2, r3) := by rw [if_neg (show ¬ (false = true) by decide)] at H; exact H
    clear H
    have H := H1
    clear H1
    replace H := ooB.mp H
    obtain ⟨⟨t218, t219⟩, A250, H⟩ := H
    replace H : ((spread_side.f a1_0 a1_1 a1_2 a0_0 a0_1 a0_2).bind fun bt220 => ((prod_Add.f t218 t219 bt220.1 bt220.2).bind fun bt222 => (some (bt222.1, bt222.2.1, IntKind.u64.wrap ((IntKind.u64.wrap (a0_0)) * (IntKind.u64.wrap (a1_0))))))) = some (r1, r2, r3) := H
    have A25 := aaM A250
    clear A250
    replace H := ooB.mp H
    obtain ⟨⟨t220, t221⟩, A260, H⟩ := H
    replace H : ((prod_Add.f t218 t219 t220 t221).bind fun bt222 => (some (bt222.1, bt222.2.1, IntKind.u64.wrap ((IntKind.u64.wrap (a0_0)) * (IntKind.u64.wrap (a1_0)))))) = some (r1, r2, r3) := H
    have A26 := aaM A260
    clear A260
    replace H := ooB.mp H
    obtain ⟨⟨t222, t223, t224⟩, A270, H⟩ := H
    replace H : (some (t222, t223, IntKind.u64.wrap ((IntKind.u64.wrap (a0_0)) * (IntKind.u64.wrap (a1_0))))) = some (r1, r2, r3) := H
    have A27 := aaM A270
    clear A270
    simp only [Option.some.injEq, Prod.mk.injEq] at H
    obtain ⟨rfl, rfl, rfl⟩ := H
    try go_wp2
    replace BK213 := aaM (bD BK213.out)
    replace BK214 := aaM (bD BK214.out)
    replace BK215 := aaM (bD BK215.out)
    replace HB := aaM (lD HB.out)
    refine start_ (n := 13) (S := fun w' => w'.cell? ⟨gb213, 0, none⟩ = some (.int .i64 a0_0) ∧ w'.cell? ⟨gb213, 1, none⟩ = some (.int .i64 a0_1) ∧ w'.cell? ⟨gb213, 2, none⟩ = some (.int .i64 a0_2) ∧ w'.cell? ⟨gb214, 0, none⟩ = some (.int .i64 a1_0) ∧ w'.cell? ⟨gb214, 1, none⟩ = some (.int .i64 a1_1) ∧ w'.cell? ⟨gb214, 2, none⟩ = some (.int .i64 a1_2)) (ds := []) #[false, false, false, false, false, false, false, false, false, false, false, false, false] (by kernel_rfl) rfl rfl ⟨(bC BK213.out 0).trans rfl, (bC BK213.out 1).trans rfl, (bC BK213.out 2).trans rfl, (bC BK214.out 0).trans rfl, (bC BK214.out 1).trans rfl, (bC BK214.out 2).trans rfl⟩ (fun hHeld => ?_); refine with_tabW spread_Score.tab3 spread_Score.bits3 (fun HT_ HW_ => ?_)
    generalize wc.drew = w28 at BK213 BK214 BK215 HB hHeld ⊢
    refine take_ (i := 0) (N := some 17) (v := ?_) (a' := ?_) #[true, false, false, false, false, false, false, false, false, false, false, false, false] rfl rfl (take_ofW HT_.out HW_.out (by kernel_rfl)) (fun _ _ _ h => h) (Or.inl ⟨by rfl, ?_⟩) hHeld ?_ ?_
    rotate_left
    ·rintro w' ⟨s0, s1, s2, s3, s4, s5⟩
     go_simp
     with_reducible rfl
    rotate_left
    ·simp only [Act.put, ssB, ssZ, ssS, i64_w, i32_w]
     rfl
    refine take_ (i := 1) (N := some 18) (v := ?_) (a' := ?_) #[true, true, false, false, false, false, false, false, false, false, false, false, false] rfl rfl (take_ofW HT_.out HW_.out (by kernel_rfl)) (fun _ _ _ h => h) (Or.inl ⟨by rfl, ?_⟩) hHeld ?_ ?_
    rotate_left
    ·rintro w' ⟨s0, s1, s2, s3, s4, s5⟩
     go_simp
     with_reducible rfl
    rotate_left
    ·simp only [Act.put, ssB, ssZ, ssS, i64_w, i32_w]
     rfl
    refine take_ (i := 3) (N := some 20) (v := ?_) (a' := ?_) #[true, true, false, true, false, false, false, false, false, false, false, false, false] rfl rfl (take_ofW HT_.out HW_.out (by kernel_rfl)) (fun _ _ _ h => h) (Or.inl ⟨by rfl, ?_⟩) hHeld ?_ ?_
    rotate_left
    ·rintro w' ⟨s0, s1, s2, s3, s4, s5⟩
     go_simp
     with_reducible rfl
    rotate_left
    ·simp only [Act.put, ssB, ssZ, ssS, i64_w, i32_w]
     rfl
    refine take_ (i := 4) (N := some 21) (v := ?_) (a' := ?_) #[true, true, false, true, true, false, false, false, false, false, false, false, false] rfl rfl (take_ofW HT_.out HW_.out (by kernel_rfl)) (fun _ _ _ h => h) (Or.inl ⟨by rfl, ?_⟩) hHeld ?_ ?_
    rotate_left
    ·rintro w' ⟨s0, s1, s2, s3, s4, s5⟩
     go_simp
     with_reducible rfl
    rotate_left
    ·simp only [Act.put, ssB, ssZ, ssS, i64_w, i32_w]
     rfl
    refine join_ (σ := Nat) 2 #[true, true, true, true, true, true, true, true, true, true, true, false, false] (fun s_ => [(19, .agg #[.int .u64 t218, .int .u64 t219]), (22, .agg #[.int .u64 t220, .int .u64 t221]), (23, .tuple #[.agg #[.int .u64 t222, .int .u64 t223], .int .i64 t224]), (5, .pointer (some ⟨s_, 0, none⟩)), (16, .tuple #[.agg #[.int .u64 t222, .int .u64 t223], .int .i64 t224]), (24, .agg #[.int .u64 t222, .int .u64 t223]), (25, .int .i64 t224)]) (fun s_ w' => (w'.cell? ⟨gb213, 0, none⟩ = some (.int .i64 a0_0) ∧ w'.cell? ⟨gb213, 1, none⟩ = some (.int .i64 a0_1) ∧ w'.cell? ⟨gb213, 2, none⟩ = some (.int .i64 a0_2) ∧ w'.cell? ⟨gb214, 0, none⟩ = some (.int .i64 a1_0) ∧ w'.cell? ⟨gb214, 1, none⟩ = some (.int .i64 a1_1) ∧ w'.cell? ⟨gb214, 2, none⟩ = some (.int .i64 a1_2)) ∧ (w'.heap[gb213]? = some (.cells #[.int .i64 a0_0, .int .i64 a0_1, .int .i64 a0_2] 54 (0, 0))) ∧ (w'.heap[gb214]? = some (.cells #[.int .i64 a1_0, .int .i64 a1_1, .int .i64 a1_2] 54 (0, 0))) ∧ (w'.heap[gb215]? = some (.cells #[.int .u64 0, .int .u64 0, .int .u64 0] 32 (0, 0))) ∧ (w'.heap[s_]? = some (.cells #[.int .u64 0, .int .u64 0] 30 (0, 0))) ∧ (w.heap.size ≤ s_) ∧ (w.heap.size ≤ s_) ∧ (gb213 ≠ s_) ∧ (s_ ≠ gb213) ∧ (gb214 ≠ s_) ∧ (s_ ≠ gb214) ∧ (gb215 ≠ s_) ∧ (s_ ≠ gb215) ∧ (Below w.heap.size w w')) ?_ ?_
    rotate_left
    ·intro hCont
     refine two_ (i := 2) (j := 10) (Ni := some 19) (Nj := some 5) #[true, true, true, true, true, false, false, false, false, false, false, false, false] #[true, true, false, true, true, false, false, false, false, false, true, false, false] rfl rfl rfl rfl (two_of HT_.out (by kernel_rfl)) (by decide) (by decide) (fun K hK => ?_) (fun K hK => ?_)
     ·skip
      refine goes_ Try.func99 (by kernel_rfl) rfl #[.agg #[.int .i64 a0_0, .int .i64 a0_1, .int .i64 a0_2], .agg #[.int .i64 a1_0, .int .i64 a1_1, .int .i64 a1_2]] (by rfl) rfl rfl (by (try simp only [mmT, mmC, mmN]); first | done | rfl | (simp only [ddD, ddT]; rfl)) ?_
      with_reducible refine (spread_side.calls a0_0 a0_1 a0_2 a1_0 a1_1 a1_2 t218 t219 _ A25.out).mono ?_
      rintro e w29 ⟨rfl, hb⟩
      refine ⟨_, rfl, ?_⟩
      replace BK213 := aaM (bX hb BK213.out)
      replace BK214 := aaM (bX hb BK214.out)
      replace BK215 := aaM (bX hb BK215.out)
      replace HB := aaM (lP (by repeat (first | (with_reducible first | exact HB.out | apply lA | apply lN | apply lD | refine lS ?_ GE213.out | refine lS ?_ GE214.out | refine lS ?_ GE215.out) | exact HB.out)) hb)
      (try clear hb)
      (try clear hb2)
      (try clear hk)
      (try clear hi)
      refine hK.out _ _ ⟨(bC BK213.out 0).trans rfl, (bC BK213.out 1).trans rfl, (bC BK213.out 2).trans rfl, (bC BK214.out 0).trans rfl, (bC BK214.out 1).trans rfl, (bC BK214.out 2).trans rfl⟩ (fun hHeld => ?_)
      clear hK K
      refine norm_ (a' := ?_) ?_ ?_
      rotate_left
      ·show Act.put _ (some 19) _ = _
       simp only [Act.put, ssB, ssZ, ssS, i64_w, i32_w]
       rfl
      refine two_ (i := 5) (j := 10) (Ni := some 22) (Nj := some 5) #[true, true, true, true, true, true, false, false, false, false, false, false, false] #[true, true, true, true, true, false, false, false, false, false, true, false, false] rfl rfl rfl rfl (two_of HT_.out (by kernel_rfl)) (by decide) (by decide) (fun K hK => ?_) (fun K hK => ?_)
      ·skip
       refine goes_ Try.func99 (by kernel_rfl) rfl #[.agg #[.int .i64 a1_0, .int .i64 a1_1, .int .i64 a1_2], .agg #[.int .i64 a0_0, .int .i64 a0_1, .int .i64 a0_2]] (by rfl) rfl rfl (by (try simp only [mmT, mmC, mmN]); first | done | rfl | (simp only [ddD, ddT]; rfl)) ?_
       with_reducible refine (spread_side.calls a1_0 a1_1 a1_2 a0_0 a0_1 a0_2 t220 t221 _ A26.out).mono ?_
       rintro e w30 ⟨rfl, hb⟩
       refine ⟨_, rfl, ?_⟩
       replace BK213 := aaM (bX hb BK213.out)
       replace BK214 := aaM (bX hb BK214.out)
       replace BK215 := aaM (bX hb BK215.out)
       replace HB := aaM (lP (by repeat (first | (with_reducible first | exact HB.out | apply lA | apply lN | apply lD | refine lS ?_ GE213.out | refine lS ?_ GE214.out | refine lS ?_ GE215.out) | exact HB.out)) hb)
       (try clear hb)
       (try clear hb2)
       (try clear hk)
       (try clear hi)
       refine hK.out _ _ ⟨(bC BK213.out 0).trans rfl, (bC BK213.out 1).trans rfl, (bC BK213.out 2).trans rfl, (bC BK214.out 0).trans rfl, (bC BK214.out 1).trans rfl, (bC BK214.out 2).trans rfl⟩ (fun hHeld => ?_)
       clear hK K
       refine norm_ (a' := ?_) ?_ ?_
       rotate_left
       ·show Act.put _ (some 22) _ = _
        simp only [Act.put, ssB, ssZ, ssS, i64_w, i32_w]
        rfl
       refine two_ (i := 6) (j := 10) (Ni := some 23) (Nj := some 5) #[true, true, true, true, true, true, true, false, false, false, false, false, false] #[true, true, true, true, true, true, false, false, false, false, true, false, false] rfl rfl rfl rfl (two_of HT_.out (by kernel_rfl)) (by decide) (by decide) (fun K hK => ?_) (fun K hK => ?_)
       ·skip
        refine goes_ Try.func86 (by kernel_rfl) rfl #[.agg #[.int .u64 t218, .int .u64 t219], .agg #[.int .u64 t220, .int .u64 t221]] (by rfl) rfl rfl (by (try simp only [mmT, mmC, mmN]); first | done | rfl | (simp only [ddD, ddT]; rfl)) ?_
        with_reducible refine (prod_Add.calls t218 t219 t220 t221 t222 t223 t224 _ A27.out).mono ?_
        rintro e w31 ⟨rfl, hb⟩
        refine ⟨_, rfl, ?_⟩
        replace BK213 := aaM (bX hb BK213.out)
        replace BK214 := aaM (bX hb BK214.out)
        replace BK215 := aaM (bX hb BK215.out)
        replace HB := aaM (lP (by repeat (first | (with_reducible first | exact HB.out | apply lA | apply lN | apply lD | refine lS ?_ GE213.out | refine lS ?_ GE214.out | refine lS ?_ GE215.out) | exact HB.out)) hb)
        (try clear hb)
        (try clear hb2)
        (try clear hk)
        (try clear hi)
        refine hK.out _ _ ⟨(bC BK213.out 0).trans rfl, (bC BK213.out 1).trans rfl, (bC BK213.out 2).trans rfl, (bC BK214.out 0).trans rfl, (bC BK214.out 1).trans rfl, (bC BK214.out 2).trans rfl⟩ (fun hHeld => ?_)
        clear hK K
        refine norm_ (a' := ?_) ?_ ?_
        rotate_left
        ·show Act.put _ (some 23) _ = _
         simp only [Act.put, ssB, ssZ, ssS, i64_w, i32_w]
         rfl
        refine pure_ (i := 7) (N := some 16) (v := ?_) (a' := ?_) #[true, true, true, true, true, true, true, true, false, false, false, false, false] rfl rfl (any_of HT_.out (by kernel_rfl)) (fun _ _ _ h => h) (Or.inl ⟨by rfl, ?_⟩) ?_ ?_
        rotate_left
        ·intro w'
         go_simp
         with_reducible rfl
        rotate_left
        ·simp only [Act.put, ssB, ssZ, ssS, i64_w, i32_w]
         rfl
        refine pure_ (i := 8) (N := some 24) (v := ?_) (a' := ?_) #[true, true, true, true, true, true, true, true, true, false, false, false, false] rfl rfl (any_of HT_.out (by kernel_rfl)) (fun _ _ _ h => h) (Or.inl ⟨by rfl, ?_⟩) ?_ ?_
        rotate_left
        ·intro w'
         go_simp
         with_reducible rfl
        rotate_left
        ·simp only [Act.put, ssB, ssZ, ssS, i64_w, i32_w]
         rfl
        refine pure_ (i := 9) (N := some 25) (v := ?_) (a' := ?_) #[true, true, true, true, true, true, true, true, true, true, false, false, false] rfl rfl (any_of HT_.out (by kernel_rfl)) (fun _ _ _ h => h) (Or.inl ⟨by rfl, ?_⟩) ?_ ?_
        rotate_left
        ·intro w'
         go_simp
         with_reducible rfl
        rotate_left
        ·simp only [Act.put, ssB, ssZ, ssS, i64_w, i32_w]
         rfl
        refine one_ (i := 10) (N := some 5) #[true, true, true, true, true, true, true, true, true, true, true, false, false] rfl rfl (one_of HT_.out (by kernel_rfl)) (by decide) (fun K hK => ?_)
        refine box_step ?hg (N := 5) ?hd (cs := #[.int .u64 0, .int .u64 0]) (t := 30) ?hr ?_; (case hd => rfl); (case hg => rfl); (case hr => first | (go_simp; done) | (go_simp; rfl))
        intro gb225 hg w32 hbox hb
        have hP_ := lQ (by repeat (first | (with_reducible first | exact HB.out | apply lA | apply lN | apply lD | refine lS ?_ GE213.out | refine lS ?_ GE214.out | refine lS ?_ GE215.out) | exact HB.out)) hb
        replace HB := aaM hP_.1
        have BK225 := aaM (hbox)
        have GW225 := aaM (gQ hg hP_.2)
        have GE225 := aaM (gQ hg hP_.2)
        have NB213_225 := aaM (nL hg BK213.out)
        have NB225_213 := aaM (nL hg BK213.out).symm
        replace BK213 := aaM (bX hb BK213.out)
        have NB214_225 := aaM (nL hg BK214.out)
        have NB225_214 := aaM (nL hg BK214.out).symm
        replace BK214 := aaM (bX hb BK214.out)
        have NB215_225 := aaM (nL hg BK215.out)
        have NB225_215 := aaM (nL hg BK215.out).symm
        replace BK215 := aaM (bX hb BK215.out)
        clear hb hbox hg hP_
        refine hK.out _ _ ⟨(bC BK213.out 0).trans rfl, (bC BK213.out 1).trans rfl, (bC BK213.out 2).trans rfl, (bC BK214.out 0).trans rfl, (bC BK214.out 1).trans rfl, (bC BK214.out 2).trans rfl⟩ (fun hHeld => ?_)
        clear hK K
        refine norm_ (a' := ?_) ?_ ?_
        rotate_left
        ·show Act.put _ (some 5) _ = _
         simp only [Act.put, ssB, ssZ, ssS, i64_w, i32_w]
         rfl
        exact norm_ (by simp only [putAll, Act.put, ssB, ssZ, ssS]) (hCont (gb225) _ ⟨hHeld, (by (with_reducible repeat (first | refine bN ?_ _ | refine bD ?_ | refine bA ?_ _)); exact BK213.out), (by (with_reducible repeat (first | refine bN ?_ _ | refine bD ?_ | refine bA ?_ _)); exact BK214.out), (by (with_reducible repeat (first | refine bN ?_ _ | refine bD ?_ | refine bA ?_ _)); exact BK215.out), (by (with_reducible repeat (first | refine bN ?_ _ | refine bD ?_ | refine bA ?_ _)); exact BK225.out), GW225.out, GE225.out, NB213_225.out, NB225_213.out, NB214_225.out, NB225_214.out, NB215_225.out, NB225_215.out, (by repeat (first | (with_reducible first | exact HB.out | apply lA | apply lN | apply lD | refine lS ?_ GE213.out | refine lS ?_ GE214.out | refine lS ?_ GE215.out | refine lS ?_ GE225.out) | exact HB.out))⟩)
       ·skip
        refine box_step ?hg (N := 5) ?hd (cs := #[.int .u64 0, .int .u64 0]) (t := 30) ?hr ?_; (case hd => rfl); (case hg => rfl); (case hr => first | (go_simp; done) | (go_simp; rfl))
        intro gb225 hg w31 hbox hb
        have hP_ := lQ (by repeat (first | (with_reducible first | exact HB.out | apply lA | apply lN | apply lD | refine lS ?_ GE213.out | refine lS ?_ GE214.out | refine lS ?_ GE215.out) | exact HB.out)) hb
        replace HB := aaM hP_.1
        have BK225 := aaM (hbox)
        have GW225 := aaM (gQ hg hP_.2)
        have GE225 := aaM (gQ hg hP_.2)
        have NB213_225 := aaM (nL hg BK213.out)
        have NB225_213 := aaM (nL hg BK213.out).symm
        replace BK213 := aaM (bX hb BK213.out)
        have NB214_225 := aaM (nL hg BK214.out)
        have NB225_214 := aaM (nL hg BK214.out).symm
        replace BK214 := aaM (bX hb BK214.out)
        have NB215_225 := aaM (nL hg BK215.out)
        have NB225_215 := aaM (nL hg BK215.out).symm
        replace BK215 := aaM (bX hb BK215.out)
        clear hb hbox hg hP_
        refine hK.out _ _ ⟨(bC BK213.out 0).trans rfl, (bC BK213.out 1).trans rfl, (bC BK213.out 2).trans rfl, (bC BK214.out 0).trans rfl, (bC BK214.out 1).trans rfl, (bC BK214.out 2).trans rfl⟩ (fun hHeld => ?_)
        clear hK K
        refine norm_ (a' := ?_) ?_ ?_
        rotate_left
        ·show Act.put _ (some 5) _ = _
         simp only [Act.put, ssB, ssZ, ssS, i64_w, i32_w]
         rfl
        refine one_ (i := 6) (N := some 23) #[true, true, true, true, true, true, true, false, false, false, true, false, false] rfl rfl (one_of HT_.out (by kernel_rfl)) (by decide) (fun K hK => ?_)
        refine goes_ Try.func86 (by kernel_rfl) rfl #[.agg #[.int .u64 t218, .int .u64 t219], .agg #[.int .u64 t220, .int .u64 t221]] (by rfl) rfl rfl (by (try simp only [mmT, mmC, mmN]); first | done | rfl | (simp only [ddD, ddT]; rfl)) ?_
        with_reducible refine (prod_Add.calls t218 t219 t220 t221 t222 t223 t224 _ A27.out).mono ?_
        rintro e w32 ⟨rfl, hb⟩
        refine ⟨_, rfl, ?_⟩
        replace BK213 := aaM (bX hb BK213.out)
        replace BK214 := aaM (bX hb BK214.out)
        replace BK215 := aaM (bX hb BK215.out)
        replace BK225 := aaM (bX hb BK225.out)
        replace HB := aaM (lP (by repeat (first | (with_reducible first | exact HB.out | apply lA | apply lN | apply lD | refine lS ?_ GE213.out | refine lS ?_ GE214.out | refine lS ?_ GE215.out | refine lS ?_ GE225.out) | exact HB.out)) hb)
        (try clear hb)
        (try clear hb2)
        (try clear hk)
        (try clear hi)
        refine hK.out _ _ ⟨(bC BK213.out 0).trans rfl, (bC BK213.out 1).trans rfl, (bC BK213.out 2).trans rfl, (bC BK214.out 0).trans rfl, (bC BK214.out 1).trans rfl, (bC BK214.out 2).trans rfl⟩ (fun hHeld => ?_)
        clear hK K
        refine norm_ (a' := ?_) ?_ ?_
        rotate_left
        ·show Act.put _ (some 23) _ = _
         simp only [Act.put, ssB, ssZ, ssS, i64_w, i32_w]
         rfl
        refine pure_ (i := 7) (N := some 16) (v := ?_) (a' := ?_) #[true, true, true, true, true, true, true, true, false, false, true, false, false] rfl rfl (any_of HT_.out (by kernel_rfl)) (fun _ _ _ h => h) (Or.inl ⟨by rfl, ?_⟩) ?_ ?_
        rotate_left
        ·intro w'
         go_simp
         with_reducible rfl
        rotate_left
        ·simp only [Act.put, ssB, ssZ, ssS, i64_w, i32_w]
         rfl
        refine pure_ (i := 8) (N := some 24) (v := ?_) (a' := ?_) #[true, true, true, true, true, true, true, true, true, false, true, false, false] rfl rfl (any_of HT_.out (by kernel_rfl)) (fun _ _ _ h => h) (Or.inl ⟨by rfl, ?_⟩) ?_ ?_
        rotate_left
        ·intro w'
         go_simp
         with_reducible rfl
        rotate_left
        ·simp only [Act.put, ssB, ssZ, ssS, i64_w, i32_w]
         rfl
        refine pure_ (i := 9) (N := some 25) (v := ?_) (a' := ?_) #[true, true, true, true, true, true, true, true, true, true, true, false, false] rfl rfl (any_of HT_.out (by kernel_rfl)) (fun _ _ _ h => h) (Or.inl ⟨by rfl, ?_⟩) ?_ ?_
        rotate_left
        ·intro w'
         go_simp
         with_reducible rfl
        rotate_left
        ·simp only [Act.put, ssB, ssZ, ssS, i64_w, i32_w]
         rfl
        exact norm_ (by simp only [putAll, Act.put, ssB, ssZ, ssS]) (hCont (gb225) _ ⟨hHeld, (by (with_reducible repeat (first | refine bN ?_ _ | refine bD ?_ | refine bA ?_ _)); exact BK213.out), (by (with_reducible repeat (first | refine bN ?_ _ | refine bD ?_ | refine bA ?_ _)); exact BK214.out), (by (with_reducible repeat (first | refine bN ?_ _ | refine bD ?_ | refine bA ?_ _)); exact BK215.out), (by (with_reducible repeat (first | refine bN ?_ _ | refine bD ?_ | refine bA ?_ _)); exact BK225.out), GW225.out, GE225.out, NB213_225.out, NB225_213.out, NB214_225.out, NB225_214.out, NB215_225.out, NB225_215.out, (by repeat (first | (with_reducible first | exact HB.out | apply lA | apply lN | apply lD | refine lS ?_ GE213.out | refine lS ?_ GE214.out | refine lS ?_ GE215.out | refine lS ?_ GE225.out) | exact HB.out))⟩)
      ·skip
       refine box_step ?hg (N := 5) ?hd (cs := #[.int .u64 0, .int .u64 0]) (t := 30) ?hr ?_; (case hd => rfl); (case hg => rfl); (case hr => first | (go_simp; done) | (go_simp; rfl))
       intro gb225 hg w30 hbox hb
       have hP_ := lQ (by repeat (first | (with_reducible first | exact HB.out | apply lA | apply lN | apply lD | refine lS ?_ GE213.out | refine lS ?_ GE214.out | refine lS ?_ GE215.out) | exact HB.out)) hb
       replace HB := aaM hP_.1
       have BK225 := aaM (hbox)
       have GW225 := aaM (gQ hg hP_.2)
       have GE225 := aaM (gQ hg hP_.2)
       have NB213_225 := aaM (nL hg BK213.out)
       have NB225_213 := aaM (nL hg BK213.out).symm
       replace BK213 := aaM (bX hb BK213.out)
       have NB214_225 := aaM (nL hg BK214.out)
       have NB225_214 := aaM (nL hg BK214.out).symm
       replace BK214 := aaM (bX hb BK214.out)
       have NB215_225 := aaM (nL hg BK215.out)
       have NB225_215 := aaM (nL hg BK215.out).symm
       replace BK215 := aaM (bX hb BK215.out)
       clear hb hbox hg hP_
       refine hK.out _ _ ⟨(bC BK213.out 0).trans rfl, (bC BK213.out 1).trans rfl, (bC BK213.out 2).trans rfl, (bC BK214.out 0).trans rfl, (bC BK214.out 1).trans rfl, (bC BK214.out 2).trans rfl⟩ (fun hHeld => ?_)
       clear hK K
       refine norm_ (a' := ?_) ?_ ?_
       rotate_left
       ·show Act.put _ (some 5) _ = _
        simp only [Act.put, ssB, ssZ, ssS, i64_w, i32_w]
        rfl
       refine one_ (i := 5) (N := some 22) #[true, true, true, true, true, true, false, false, false, false, true, false, false] rfl rfl (one_of HT_.out (by kernel_rfl)) (by decide) (fun K hK => ?_)
       refine goes_ Try.func99 (by kernel_rfl) rfl #[.agg #[.int .i64 a1_0, .int .i64 a1_1, .int .i64 a1_2], .agg #[.int .i64 a0_0, .int .i64 a0_1, .int .i64 a0_2]] (by rfl) rfl rfl (by (try simp only [mmT, mmC, mmN]); first | done | rfl | (simp only [ddD, ddT]; rfl)) ?_
       with_reducible refine (spread_side.calls a1_0 a1_1 a1_2 a0_0 a0_1 a0_2 t220 t221 _ A26.out).mono ?_
       rintro e w31 ⟨rfl, hb⟩
       refine ⟨_, rfl, ?_⟩
       replace BK213 := aaM (bX hb BK213.out)
       replace BK214 := aaM (bX hb BK214.out)
       replace BK215 := aaM (bX hb BK215.out)
       replace BK225 := aaM (bX hb BK225.out)
       replace HB := aaM (lP (by repeat (first | (with_reducible first | exact HB.out | apply lA | apply lN | apply lD | refine lS ?_ GE213.out | refine lS ?_ GE214.out | refine lS ?_ GE215.out | refine lS ?_ GE225.out) | exact HB.out)) hb)
       (try clear hb)
       (try clear hb2)
       (try clear hk)
       (try clear hi)
       refine hK.out _ _ ⟨(bC BK213.out 0).trans rfl, (bC BK213.out 1).trans rfl, (bC BK213.out 2).trans rfl, (bC BK214.out 0).trans rfl, (bC BK214.out 1).trans rfl, (bC BK214.out 2).trans rfl⟩ (fun hHeld => ?_)
       clear hK K
       refine norm_ (a' := ?_) ?_ ?_
       rotate_left
       ·show Act.put _ (some 22) _ = _
        simp only [Act.put, ssB, ssZ, ssS, i64_w, i32_w]
        rfl
       refine one_ (i := 6) (N := some 23) #[true, true, true, true, true, true, true, false, false, false, true, false, false] rfl rfl (one_of HT_.out (by kernel_rfl)) (by decide) (fun K hK => ?_)
       refine goes_ Try.func86 (by kernel_rfl) rfl #[.agg #[.int .u64 t218, .int .u64 t219], .agg #[.int .u64 t220, .int .u64 t221]] (by rfl) rfl rfl (by (try simp only [mmT, mmC, mmN]); first | done | rfl | (simp only [ddD, ddT]; rfl)) ?_
       with_reducible refine (prod_Add.calls t218 t219 t220 t221 t222 t223 t224 _ A27.out).mono ?_
       rintro e w32 ⟨rfl, hb⟩
       refine ⟨_, rfl, ?_⟩
       replace BK213 := aaM (bX hb BK213.out)
       replace BK214 := aaM (bX hb BK214.out)
       replace BK215 := aaM (bX hb BK215.out)
       replace BK225 := aaM (bX hb BK225.out)
       replace HB := aaM (lP (by repeat (first | (with_reducible first | exact HB.out | apply lA | apply lN | apply lD | refine lS ?_ GE213.out | refine lS ?_ GE214.out | refine lS ?_ GE215.out | refine lS ?_ GE225.out) | exact HB.out)) hb)
       (try clear hb)
       (try clear hb2)
       (try clear hk)
       (try clear hi)
       refine hK.out _ _ ⟨(bC BK213.out 0).trans rfl, (bC BK213.out 1).trans rfl, (bC BK213.out 2).trans rfl, (bC BK214.out 0).trans rfl, (bC BK214.out 1).trans rfl, (bC BK214.out 2).trans rfl⟩ (fun hHeld => ?_)
       clear hK K
       refine norm_ (a' := ?_) ?_ ?_
       rotate_left
       ·show Act.put _ (some 23) _ = _
        simp only [Act.put, ssB, ssZ, ssS, i64_w, i32_w]
        rfl
       refine pure_ (i := 7) (N := some 16) (v := ?_) (a' := ?_) #[true, true, true, true, true, true, true, true, false, false, true, false, false] rfl rfl (any_of HT_.out (by kernel_rfl)) (fun _ _ _ h => h) (Or.inl ⟨by rfl, ?_⟩) ?_ ?_
       rotate_left
       ·intro w'
        go_simp
        with_reducible rfl
       rotate_left
       ·simp only [Act.put, ssB, ssZ, ssS, i64_w, i32_w]
        rfl
       refine pure_ (i := 8) (N := some 24) (v := ?_) (a' := ?_) #[true, true, true, true, true, true, true, true, true, false, true, false, false] rfl rfl (any_of HT_.out (by kernel_rfl)) (fun _ _ _ h => h) (Or.inl ⟨by rfl, ?_⟩) ?_ ?_
       rotate_left
       ·intro w'
        go_simp
        with_reducible rfl
       rotate_left
       ·simp only [Act.put, ssB, ssZ, ssS, i64_w, i32_w]
        rfl
       refine pure_ (i := 9) (N := some 25) (v := ?_) (a' := ?_) #[true, true, true, true, true, true, true, true, true, true, true, false, false] rfl rfl (any_of HT_.out (by kernel_rfl)) (fun _ _ _ h => h) (Or.inl ⟨by rfl, ?_⟩) ?_ ?_
       rotate_left
       ·intro w'
        go_simp
        with_reducible rfl
       rotate_left
       ·simp only [Act.put, ssB, ssZ, ssS, i64_w, i32_w]
        rfl
       exact norm_ (by simp only [putAll, Act.put, ssB, ssZ, ssS]) (hCont (gb225) _ ⟨hHeld, (by (with_reducible repeat (first | refine bN ?_ _ | refine bD ?_ | refine bA ?_ _)); exact BK213.out), (by (with_reducible repeat (first | refine bN ?_ _ | refine bD ?_ | refine bA ?_ _)); exact BK214.out), (by (with_reducible repeat (first | refine bN ?_ _ | refine bD ?_ | refine bA ?_ _)); exact BK215.out), (by (with_reducible repeat (first | refine bN ?_ _ | refine bD ?_ | refine bA ?_ _)); exact BK225.out), GW225.out, GE225.out, NB213_225.out, NB225_213.out, NB214_225.out, NB225_214.out, NB215_225.out, NB225_215.out, (by repeat (first | (with_reducible first | exact HB.out | apply lA | apply lN | apply lD | refine lS ?_ GE213.out | refine lS ?_ GE214.out | refine lS ?_ GE215.out | refine lS ?_ GE225.out) | exact HB.out))⟩)
     ·skip
      refine box_step ?hg (N := 5) ?hd (cs := #[.int .u64 0, .int .u64 0]) (t := 30) ?hr ?_; (case hd => rfl); (case hg => rfl); (case hr => first | (go_simp; done) | (go_simp; rfl))
      intro gb225 hg w29 hbox hb
      have hP_ := lQ (by repeat (first | (with_reducible first | exact HB.out | apply lA | apply lN | apply lD | refine lS ?_ GE213.out | refine lS ?_ GE214.out | refine lS ?_ GE215.out) | exact HB.out)) hb
      replace HB := aaM hP_.1
      have BK225 := aaM (hbox)
      have GW225 := aaM (gQ hg hP_.2)
      have GE225 := aaM (gQ hg hP_.2)
      have NB213_225 := aaM (nL hg BK213.out)
      have NB225_213 := aaM (nL hg BK213.out).symm
      replace BK213 := aaM (bX hb BK213.out)
      have NB214_225 := aaM (nL hg BK214.out)
      have NB225_214 := aaM (nL hg BK214.out).symm
      replace BK214 := aaM (bX hb BK214.out)
      have NB215_225 := aaM (nL hg BK215.out)
      have NB225_215 := aaM (nL hg BK215.out).symm
      replace BK215 := aaM (bX hb BK215.out)
      clear hb hbox hg hP_
      refine hK.out _ _ ⟨(bC BK213.out 0).trans rfl, (bC BK213.out 1).trans rfl, (bC BK213.out 2).trans rfl, (bC BK214.out 0).trans rfl, (bC BK214.out 1).trans rfl, (bC BK214.out 2).trans rfl⟩ (fun hHeld => ?_)
      clear hK K
      refine norm_ (a' := ?_) ?_ ?_
      rotate_left
      ·show Act.put _ (some 5) _ = _
       simp only [Act.put, ssB, ssZ, ssS, i64_w, i32_w]
       rfl
      refine one_ (i := 2) (N := some 19) #[true, true, true, true, true, false, false, false, false, false, true, false, false] rfl rfl (one_of HT_.out (by kernel_rfl)) (by decide) (fun K hK => ?_)
      refine goes_ Try.func99 (by kernel_rfl) rfl #[.agg #[.int .i64 a0_0, .int .i64 a0_1, .int .i64 a0_2], .agg #[.int .i64 a1_0, .int .i64 a1_1, .int .i64 a1_2]] (by rfl) rfl rfl (by (try simp only [mmT, mmC, mmN]); first | done | rfl | (simp only [ddD, ddT]; rfl)) ?_
      with_reducible refine (spread_side.calls a0_0 a0_1 a0_2 a1_0 a1_1 a1_2 t218 t219 _ A25.out).mono ?_
      rintro e w30 ⟨rfl, hb⟩
      refine ⟨_, rfl, ?_⟩
      replace BK213 := aaM (bX hb BK213.out)
      replace BK214 := aaM (bX hb BK214.out)
      replace BK215 := aaM (bX hb BK215.out)
      replace BK225 := aaM (bX hb BK225.out)
      replace HB := aaM (lP (by repeat (first | (with_reducible first | exact HB.out | apply lA | apply lN | apply lD | refine lS ?_ GE213.out | refine lS ?_ GE214.out | refine lS ?_ GE215.out | refine lS ?_ GE225.out) | exact HB.out)) hb)
      (try clear hb)
      (try clear hb2)
      (try clear hk)
      (try clear hi)
      refine hK.out _ _ ⟨(bC BK213.out 0).trans rfl, (bC BK213.out 1).trans rfl, (bC BK213.out 2).trans rfl, (bC BK214.out 0).trans rfl, (bC BK214.out 1).trans rfl, (bC BK214.out 2).trans rfl⟩ (fun hHeld => ?_)
      clear hK K
      refine norm_ (a' := ?_) ?_ ?_
      rotate_left
      ·show Act.put _ (some 19) _ = _
       simp only [Act.put, ssB, ssZ, ssS, i64_w, i32_w]
       rfl
      refine one_ (i := 5) (N := some 22) #[true, true, true, true, true, true, false, false, false, false, true, false, false] rfl rfl (one_of HT_.out (by kernel_rfl)) (by decide) (fun K hK => ?_)
      refine goes_ Try.func99 (by kernel_rfl) rfl #[.agg #[.int .i64 a1_0, .int .i64 a1_1, .int .i64 a1_2], .agg #[.int .i64 a0_0, .int .i64 a0_1, .int .i64 a0_2]] (by rfl) rfl rfl (by (try simp only [mmT, mmC, mmN]); first | done | rfl | (simp only [ddD, ddT]; rfl)) ?_
      with_reducible refine (spread_side.calls a1_0 a1_1 a1_2 a0_0 a0_1 a0_2 t220 t221 _ A26.out).mono ?_
      rintro e w31 ⟨rfl, hb⟩
      refine ⟨_, rfl, ?_⟩
      replace BK213 := aaM (bX hb BK213.out)
      replace BK214 := aaM (bX hb BK214.out)
      replace BK215 := aaM (bX hb BK215.out)
      replace BK225 := aaM (bX hb BK225.out)
      replace HB := aaM (lP (by repeat (first | (with_reducible first | exact HB.out | apply lA | apply lN | apply lD | refine lS ?_ GE213.out | refine lS ?_ GE214.out | refine lS ?_ GE215.out | refine lS ?_ GE225.out) | exact HB.out)) hb)
      (try clear hb)
      (try clear hb2)
      (try clear hk)
      (try clear hi)
      refine hK.out _ _ ⟨(bC BK213.out 0).trans rfl, (bC BK213.out 1).trans rfl, (bC BK213.out 2).trans rfl, (bC BK214.out 0).trans rfl, (bC BK214.out 1).trans rfl, (bC BK214.out 2).trans rfl⟩ (fun hHeld => ?_)
      clear hK K
      refine norm_ (a' := ?_) ?_ ?_
      rotate_left
      ·show Act.put _ (some 22) _ = _
       simp only [Act.put, ssB, ssZ, ssS, i64_w, i32_w]
       rfl
      refine one_ (i := 6) (N := some 23) #[true, true, true, true, true, true, true, false, false, false, true, false, false] rfl rfl (one_of HT_.out (by kernel_rfl)) (by decide) (fun K hK => ?_)
      refine goes_ Try.func86 (by kernel_rfl) rfl #[.agg #[.int .u64 t218, .int .u64 t219], .agg #[.int .u64 t220, .int .u64 t221]] (by rfl) rfl rfl (by (try simp only [mmT, mmC, mmN]); first | done | rfl | (simp only [ddD, ddT]; rfl)) ?_
      with_reducible refine (prod_Add.calls t218 t219 t220 t221 t222 t223 t224 _ A27.out).mono ?_
      rintro e w32 ⟨rfl, hb⟩
      refine ⟨_, rfl, ?_⟩
      replace BK213 := aaM (bX hb BK213.out)
      replace BK214 := aaM (bX hb BK214.out)
      replace BK215 := aaM (bX hb BK215.out)
      replace BK225 := aaM (bX hb BK225.out)
      replace HB := aaM (lP (by repeat (first | (with_reducible first | exact HB.out | apply lA | apply lN | apply lD | refine lS ?_ GE213.out | refine lS ?_ GE214.out | refine lS ?_ GE215.out | refine lS ?_ GE225.out) | exact HB.out)) hb)
      (try clear hb)
      (try clear hb2)
      (try clear hk)
      (try clear hi)
      refine hK.out _ _ ⟨(bC BK213.out 0).trans rfl, (bC BK213.out 1).trans rfl, (bC BK213.out 2).trans rfl, (bC BK214.out 0).trans rfl, (bC BK214.out 1).trans rfl, (bC BK214.out 2).trans rfl⟩ (fun hHeld => ?_)
      clear hK K
      refine norm_ (a' := ?_) ?_ ?_
      rotate_left
      ·show Act.put _ (some 23) _ = _
       simp only [Act.put, ssB, ssZ, ssS, i64_w, i32_w]
       rfl
      refine pure_ (i := 7) (N := some 16) (v := ?_) (a' := ?_) #[true, true, true, true, true, true, true, true, false, false, true, false, false] rfl rfl (any_of HT_.out (by kernel_rfl)) (fun _ _ _ h => h) (Or.inl ⟨by rfl, ?_⟩) ?_ ?_
      rotate_left
      ·intro w'
       go_simp
       with_reducible rfl
      rotate_left
      ·simp only [Act.put, ssB, ssZ, ssS, i64_w, i32_w]
       rfl
      refine pure_ (i := 8) (N := some 24) (v := ?_) (a' := ?_) #[true, true, true, true, true, true, true, true, true, false, true, false, false] rfl rfl (any_of HT_.out (by kernel_rfl)) (fun _ _ _ h => h) (Or.inl ⟨by rfl, ?_⟩) ?_ ?_
      rotate_left
      ·intro w'
       go_simp
       with_reducible rfl
      rotate_left
      ·simp only [Act.put, ssB, ssZ, ssS, i64_w, i32_w]
       rfl
      refine pure_ (i := 9) (N := some 25) (v := ?_) (a' := ?_) #[true, true, true, true, true, true, true, true, true, true, true, false, false] rfl rfl (any_of HT_.out (by kernel_rfl)) (fun _ _ _ h => h) (Or.inl ⟨by rfl, ?_⟩) ?_ ?_
      rotate_left
      ·intro w'
       go_simp
       with_reducible rfl
      rotate_left
      ·simp only [Act.put, ssB, ssZ, ssS, i64_w, i32_w]
       rfl
      exact norm_ (by simp only [putAll, Act.put, ssB, ssZ, ssS]) (hCont (gb225) _ ⟨hHeld, (by (with_reducible repeat (first | refine bN ?_ _ | refine bD ?_ | refine bA ?_ _)); exact BK213.out), (by (with_reducible repeat (first | refine bN ?_ _ | refine bD ?_ | refine bA ?_ _)); exact BK214.out), (by (with_reducible repeat (first | refine bN ?_ _ | refine bD ?_ | refine bA ?_ _)); exact BK215.out), (by (with_reducible repeat (first | refine bN ?_ _ | refine bD ?_ | refine bA ?_ _)); exact BK225.out), GW225.out, GE225.out, NB213_225.out, NB225_213.out, NB214_225.out, NB225_214.out, NB215_225.out, NB225_215.out, (by repeat (first | (with_reducible first | exact HB.out | apply lA | apply lN | apply lD | refine lS ?_ GE213.out | refine lS ?_ GE214.out | refine lS ?_ GE215.out | refine lS ?_ GE225.out) | exact HB.out))⟩)
    rintro gb225 w33 ⟨hS_, h0_, h1_, h2_, h3_, h4_, h5_, h6_, h7_, h8_, h9_, h10_, h11_, h12_⟩
    have n0_ : Aside0 (w33.heap[gb213]? = some (.cells #[.int .i64 a0_0, .int .i64 a0_1, .int .i64 a0_2] 54 (0, 0))) := ⟨h0_⟩
    have n1_ : Aside0 (w33.heap[gb214]? = some (.cells #[.int .i64 a1_0, .int .i64 a1_1, .int .i64 a1_2] 54 (0, 0))) := ⟨h1_⟩
    have n2_ : Aside0 (w33.heap[gb215]? = some (.cells #[.int .u64 0, .int .u64 0, .int .u64 0] 32 (0, 0))) := ⟨h2_⟩
    have n3_ : Aside0 (w33.heap[gb225]? = some (.cells #[.int .u64 0, .int .u64 0] 30 (0, 0))) := ⟨h3_⟩
    have n4_ : Aside0 (w.heap.size ≤ gb225) := ⟨h4_⟩
    have n5_ : Aside0 (w.heap.size ≤ gb225) := ⟨h5_⟩
    have n6_ : Aside0 (gb213 ≠ gb225) := ⟨h6_⟩
    have n7_ : Aside0 (gb225 ≠ gb213) := ⟨h7_⟩
    have n8_ : Aside0 (gb214 ≠ gb225) := ⟨h8_⟩
    have n9_ : Aside0 (gb225 ≠ gb214) := ⟨h9_⟩
    have n10_ : Aside0 (gb215 ≠ gb225) := ⟨h10_⟩
    have n11_ : Aside0 (gb225 ≠ gb215) := ⟨h11_⟩
    have n12_ : Aside0 (Below w.heap.size w w33) := ⟨h12_⟩
    clear BK213 BK214 BK215 HB h0_ h1_ h2_ h3_ h4_ h5_ h6_ h7_ h8_ h9_ h10_ h11_ h12_
    have BK213 := n0_
    have BK214 := n1_
    have BK215 := n2_
    have BK225 := n3_
    have GW225 := n4_
    have GE225 := n5_
    have NB213_225 := n6_
    have NB225_213 := n7_
    have NB214_225 := n8_
    have NB225_214 := n9_
    have NB215_225 := n10_
    have NB225_215 := n11_
    have HB := n12_
    clear n0_ n1_ n2_ n3_ n4_ n5_ n6_ n7_ n8_ n9_ n10_ n11_ n12_
    have hHeld : w33.cell? ⟨gb213, 0, none⟩ = some (.int .i64 a0_0) ∧ w33.cell? ⟨gb213, 1, none⟩ = some (.int .i64 a0_1) ∧ w33.cell? ⟨gb213, 2, none⟩ = some (.int .i64 a0_2) ∧ w33.cell? ⟨gb214, 0, none⟩ = some (.int .i64 a1_0) ∧ w33.cell? ⟨gb214, 1, none⟩ = some (.int .i64 a1_1) ∧ w33.cell? ⟨gb214, 2, none⟩ = some (.int .i64 a1_2) := hS_
    refine norm_ (a' := ?_) ?_ ?_
    rotate_left
    ·simp only [putAll, Act.put, ssB, ssZ, ssS]
     rfl
    refine one_ (i := 11) (N := none) #[true, true, true, true, true, true, true, true, true, true, true, true, false] rfl rfl (one_of HT_.out (by kernel_rfl)) (by decide) (fun K hK => ?_)
    obtain ⟨hs34, -, hfs34, -⟩ := bE2 BK225.out
    have hns34_0 := NB213_225.out
    have hns34_1 := NB214_225.out
    have hns34_2 := NB215_225.out
    have hms34_0 := NB225_213.out
    have hms34_1 := NB225_214.out
    have hms34_2 := NB225_215.out
    obtain ⟨-, hs35, -, hfs35⟩ := bE2 BK225.out
    have hns35_0 := NB213_225.out
    have hns35_1 := NB214_225.out
    have hns35_2 := NB215_225.out
    have hms35_0 := NB225_213.out
    have hms35_1 := NB225_214.out
    have hms35_2 := NB225_215.out
    refine skip_ (w1 := ?_) (by rfl) rfl ?_ ?_
    rotate_left
    ·go_simp
     rfl
    refine hK.out _ _ ⟨((cell_far (p := ⟨gb225, _, none⟩) NB213_225.out _).trans (((cell_far (p := ⟨gb225, _, none⟩) NB213_225.out _).trans (hHeld.1)))), ((cell_far (p := ⟨gb225, _, none⟩) NB213_225.out _).trans (((cell_far (p := ⟨gb225, _, none⟩) NB213_225.out _).trans (hHeld.2.1)))), ((cell_far (p := ⟨gb225, _, none⟩) NB213_225.out _).trans (((cell_far (p := ⟨gb225, _, none⟩) NB213_225.out _).trans (hHeld.2.2.1)))), ((cell_far (p := ⟨gb225, _, none⟩) NB214_225.out _).trans (((cell_far (p := ⟨gb225, _, none⟩) NB214_225.out _).trans (hHeld.2.2.2.1)))), ((cell_far (p := ⟨gb225, _, none⟩) NB214_225.out _).trans (((cell_far (p := ⟨gb225, _, none⟩) NB214_225.out _).trans (hHeld.2.2.2.2.1)))), ((cell_far (p := ⟨gb225, _, none⟩) NB214_225.out _).trans (((cell_far (p := ⟨gb225, _, none⟩) NB214_225.out _).trans (hHeld.2.2.2.2.2))))⟩ (fun hHeld => ?_)
    clear hK K
    refine pure_ (i := 12) (N := some 6) (v := ?_) (a' := ?_) #[true, true, true, true, true, true, true, true, true, true, true, true, true] rfl rfl (any_of HT_.out (by kernel_rfl)) (fun _ _ _ h => h) (Or.inl ⟨by rfl, ?_⟩) ?_ ?_
    rotate_left
    ·intro w'
     go_simp
     with_reducible rfl
    rotate_left
    ·simp only [Act.put, ssB, ssZ, ssS, i64_w, i32_w]
     rfl
    refine done_ (done_of HT_.out (by kernel_rfl)) ?_
    have hnb36 := NB225_213.out
    have hnc36 := NB213_225.out
    have hnb37 := NB225_214.out
    have hnc37 := NB214_225.out
    have hnb38 := NB225_215.out
    have hnc38 := NB215_225.out
    obtain ⟨hcz39_0, hcz39_1, hfz39_0, hfz39_1⟩ := bE2 BK225.out
    have hnb40 := NB213_214.out
    have hnc40 := NB214_213.out
    have hnb41 := NB213_215.out
    have hnc41 := NB215_213.out
    obtain ⟨hcz42_0, hcz42_1, hcz42_2, hfz42_0, hfz42_1, hfz42_2⟩ := bE3 BK213.out
    have hnb43 := NB214_215.out
    have hnc43 := NB215_214.out
    obtain ⟨hcz44_0, hcz44_1, hcz44_2, hfz44_0, hfz44_1, hfz44_2⟩ := bE3 BK214.out
    obtain ⟨hcz45_0, hcz45_1, hcz45_2, hfz45_0, hfz45_1, hfz45_2⟩ := bE3 BK215.out
    try go_wp2
    refine bodyPost_ret (results_cell_row rfl _ _ gb215 32 #[.int .u64 t222, .int .u64 t223, .int .u64 (IntKind.u64.wrap ((IntKind.u64.wrap (a0_0)) * (IntKind.u64.wrap (a1_0))))] (0, 0) _ rfl (by (with_reducible repeat (first | refine bN ?_ _ | refine bD ?_ | refine bA ?_ _)); refine blk_put (cs := #[.int .u64 t222, .int .u64 t223, .int .u64 0]) ?_ 2 _ rfl; (with_reducible repeat (first | refine bN ?_ _ | refine bD ?_ | refine bA ?_ _)); refine blk_put (cs := #[.int .u64 t222, .int .u64 0, .int .u64 0]) ?_ 1 _ rfl; (with_reducible repeat (first | refine bN ?_ _ | refine bD ?_ | refine bA ?_ _)); refine blk_put (cs := #[.int .u64 0, .int .u64 0, .int .u64 0]) ?_ 0 _ rfl; (with_reducible repeat (first | refine bN ?_ _ | refine bD ?_ | refine bA ?_ _)); refine blk_far ?_ NB215_225.out _; (with_reducible repeat (first | refine bN ?_ _ | refine bD ?_ | refine bA ?_ _)); refine blk_far ?_ NB215_225.out _; (with_reducible repeat (first | refine bN ?_ _ | refine bD ?_ | refine bA ?_ _)); exact BK215.out) Try.underlying32 rfl (by kernel_rfl)) rfl ?_
    exact ⟨by first | rfl | (simp [errW_none, errW_some] <;> rfl) | (simp [*, errW_none, errW_some] <;> rfl), by repeat (first | (with_reducible first | exact HB.out | apply lA | apply lN | apply lD | refine lS ?_ GE213.out | refine lS ?_ GE214.out | refine lS ?_ GE215.out | refine lS ?_ GE225.out) | exact HB.out)⟩

-- NOT PRINTED: function 92 (split_means_score)

/-! ### split_means_size: function 93 -/
def split_means_size.f (k : Nat) (a0_0 : Int) (a0_1 : Int) (a0_2 : Int) : Option (Int) := (spread_May.f k a0_0 a0_1 a0_2).bind fun t227 => (if t227 = true then (some a0_0) else (some 0))
theorem split_means_size.mono : ∀ a0 a1 a2 k, LeO (split_means_size.f k a0 a1 a2) (split_means_size.f (k + 1) a0 a1 a2) := by
 intro a0 a1 a2 k
 unfold split_means_size.f
 repeat' first
   | (with_reducible exact spread_May.mono _ _ _ _)
   | (with_reducible exact LeO.refl _)
   | (with_reducible exact LeO.none _)
   | (with_reducible refine LeO.ite ?_ ?_)
   | (with_reducible refine LeO.bind ?_ (fun _ => ?_))
   | exact spread_May.mono _ _ _ _
   | exact LeO.none _
   | refine LeO.ite ?_ ?_
   | refine LeO.bind ?_ (fun _ => ?_)
set_option maxHeartbeats 8000000 in
set_option maxRecDepth 100000 in
theorem split_means_size.calls (k : Nat) (a0_0 : Int) (a0_1 : Int) (a0_2 : Int) (r : Int) (w : World) (h : split_means_size.f k a0_0 a0_1 a0_2 = some r) :
  Calls Try.prog 93 #[.agg #[.int .i64 a0_0, .int .i64 a0_1, .int .i64 a0_2]] w fun e w' => e = .returned (.int .i64 r) ∧ Below w.heap.size w w' := by
 have hu83 := Try.underlying83
 have hu54 := Try.underlying54
 have HB := aaM (Below.refl w.heap.size w)
 have H : ((spread_May.f k a0_0 a0_1 a0_2).bind fun t227 => (if t227 = true then (some a0_0) else (some 0))) = some r := h
 clear h
 replace H := ooB.mp H
 obtain ⟨t227, A20, H⟩ := H
 replace H : (if t227 = true then (some a0_0) else (some 0)) = some r := H
 have A2 := aaM A20
 clear A20
 by_cases c3 : t227 = true
 ·subst c3
  have H1 : (some a0_0) = some r := by rw [if_pos rfl] at H; exact H
  clear H
  have H := H1
  clear H1
  obtain rfl := Option.some.inj H
  go_enter Try.func93, Try.ntmps93
  go_wp2_with (first | ((with_reducible refine gate_dst (N := 1) rfl ?_); refine box_event ?hg (N := 1) ?hd (cs := #[.int .i64 a0_0, .int .i64 a0_1, .int .i64 a0_2]) (t := 83) ?hr ?_; (case hd => rfl); (case hg => rfl); (case hr => first | (go_simp; done) | (go_simp; rfl)); intro gb226 hg w4 hbox hb; have hP_ := lQ (by repeat (first | (with_reducible first | exact HB.out | apply lA | apply lN | apply lD) | exact HB.out)) hb; replace HB := aaM hP_.1; have BK226 := aaM (hbox); have GW226 := aaM (gQ hg hP_.2); have GE226 := aaM (gQ hg hP_.2); clear hP_ hb hbox hg; obtain ⟨hcz5_0, hcz5_1, hcz5_2, hfz5_0, hfz5_1, hfz5_2⟩ := bE3 BK226.out) | ((with_reducible refine gate_callee (f := 96) rfl ?_); refine goesL_ (some 5) rfl rfl Try.func96 (by kernel_rfl) rfl #[.agg #[.int .i64 a0_0, .int .i64 a0_1, .int .i64 a0_2]] rfl (by (try simp only [mmT, mmC, mmN]); first | done | rfl | (simp only [ddD, ddT]; rfl)) ?_; (with_reducible refine (spread_May.calls k a0_0 a0_1 a0_2 true _ A2.out).mono ?_); rintro e w6 ⟨rfl, hb⟩; refine ⟨_, rfl, ?_⟩; replace BK226 := aaM (bX hb BK226.out); replace HB := aaM (lP (by repeat (first | (with_reducible first | exact HB.out | apply lA | apply lN | apply lD | refine lS ?_ GE226.out) | exact HB.out)) hb); (try clear hb); (try clear hb2); (try clear hk); (try clear hi); obtain ⟨hcz7_0, hcz7_1, hcz7_2, hfz7_0, hfz7_1, hfz7_2⟩ := bE3 BK226.out))
  all_goals (go_ret; exact ⟨by first | rfl | (simp [errW_none, errW_some] <;> rfl) | (simp [*, errW_none, errW_some] <;> rfl) | (simp_all; done), by repeat (first | (with_reducible first | exact HB.out | apply lA | apply lN | apply lD | refine lS ?_ GE226.out) | exact HB.out)⟩)
 ·replace c3 := Bool.eq_false_iff.mpr c3
  subst c3
  have H1 : (some 0) = some r := by rw [if_neg (show ¬ (false = true) by decide)] at H; exact H
  clear H
  have H := H1
  clear H1
  obtain rfl := Option.some.inj H
  go_enter Try.func93, Try.ntmps93
  go_wp2_with (first | ((with_reducible refine gate_dst (N := 1) rfl ?_); refine box_event ?hg (N := 1) ?hd (cs := #[.int .i64 a0_0, .int .i64 a0_1, .int .i64 a0_2]) (t := 83) ?hr ?_; (case hd => rfl); (case hg => rfl); (case hr => first | (go_simp; done) | (go_simp; rfl)); intro gb226 hg w8 hbox hb; have hP_ := lQ (by repeat (first | (with_reducible first | exact HB.out | apply lA | apply lN | apply lD) | exact HB.out)) hb; replace HB := aaM hP_.1; have BK226 := aaM (hbox); have GW226 := aaM (gQ hg hP_.2); have GE226 := aaM (gQ hg hP_.2); clear hP_ hb hbox hg; obtain ⟨hcz9_0, hcz9_1, hcz9_2, hfz9_0, hfz9_1, hfz9_2⟩ := bE3 BK226.out) | ((with_reducible refine gate_callee (f := 96) rfl ?_); refine goesL_ (some 5) rfl rfl Try.func96 (by kernel_rfl) rfl #[.agg #[.int .i64 a0_0, .int .i64 a0_1, .int .i64 a0_2]] rfl (by (try simp only [mmT, mmC, mmN]); first | done | rfl | (simp only [ddD, ddT]; rfl)) ?_; (with_reducible refine (spread_May.calls k a0_0 a0_1 a0_2 false _ A2.out).mono ?_); rintro e w10 ⟨rfl, hb⟩; refine ⟨_, rfl, ?_⟩; replace BK226 := aaM (bX hb BK226.out); replace HB := aaM (lP (by repeat (first | (with_reducible first | exact HB.out | apply lA | apply lN | apply lD | refine lS ?_ GE226.out) | exact HB.out)) hb); (try clear hb); (try clear hb2); (try clear hk); (try clear hi)))
  all_goals (go_ret; exact ⟨by first | rfl | (simp [errW_none, errW_some] <;> rfl) | (simp [*, errW_none, errW_some] <;> rfl) | (simp_all; done), by repeat (first | (with_reducible first | exact HB.out | apply lA | apply lN | apply lD | refine lS ?_ GE226.out) | exact HB.out)⟩)

/-! ### hornbeamlaw12_Great: function 8 -/
def hornbeamlaw12_Great.f (a0_0 : Int) (a0_1 : Int) (a0_2 : Int) (l0_3 : List Int) (l0_4 : List (S54)) : Option (Bool) := if (l0_3.length : Int) > 1000 then (some true) else (some (decide ((l0_4.length : Int) > 300)))
set_option maxHeartbeats 8000000 in
set_option maxRecDepth 100000 in
theorem hornbeamlaw12_Great.calls (a0_0 : Int) (a0_1 : Int) (a0_2 : Int) (A0_3 : Option Addr) (c0_3 : Nat) (l0_3 : List Int) (A0_4 : Option Addr) (c0_4 : Nat) (l0_4 : List (S54)) (r : Bool) (w : World) (hr0_3 : Kd.C (Kd.int .i64) w A0_3 l0_3.length l0_3) (hc0_3 : l0_3.length ≤ c0_3) (hr0_4 : Kd.C k54 w A0_4 l0_4.length l0_4) (hc0_4 : l0_4.length ≤ c0_4) (h : hornbeamlaw12_Great.f a0_0 a0_1 a0_2 l0_3 l0_4 = some r) :
  Calls Try.prog 8 #[.agg #[.int .i64 a0_0, .int .i64 a0_1, .int .i64 a0_2, .slice A0_3 l0_3.length c0_3, .slice A0_4 l0_4.length c0_4]] w fun e w' => e = .returned (.bool r) ∧ Below w.heap.size w w' := by
 have hu25 := Try.underlying25
 have HR0_3 := aaM hr0_3
 have HC0_3 := aaM hc0_3
 clear hr0_3 hc0_3
 have HR0_4 := aaM hr0_4
 have HC0_4 := aaM hc0_4
 clear hr0_4 hc0_4
 have HB := aaM (Below.refl w.heap.size w)
 have H : (if (l0_3.length : Int) > 1000 then (some true) else (some (decide ((l0_4.length : Int) > 300)))) = some r := h
 clear h
 by_cases c2 : (l0_3.length : Int) > 1000
 ·rw [if_pos c2] at H
  have c2b0 : decide (1000 < (l0_3.length : Int)) = true := decide_eq_true c2
  have c2b1 : decide (1000 < l0_3.length) = true := decide_eq_true (by omega)
  clear c2
  obtain rfl := Option.some.inj H
  go_enter Try.func8, Try.ntmps8
  go_wp2_with (first | ((with_reducible refine gate_dst (N := 1) rfl ?_); (try (refine gate_guard (by rfl) ?_; dsimp only)); refine box_event ?hg (N := 1) ?hd (cs := #[.int .i64 a0_0, .int .i64 a0_1, .int .i64 a0_2, .slice A0_3 l0_3.length c0_3, .slice A0_4 l0_4.length c0_4]) (t := 25) ?hr ?_; (case hd => rfl); (case hg => rfl); (case hr => first | (go_simp; done) | (go_simp; rfl)); intro gb228 hg w3 hbox hb; have hP_ := lQ (by repeat (first | (with_reducible first | exact HB.out | apply lA | apply lN | apply lD) | exact HB.out)) hb; replace HB := aaM hP_.1; have BK228 := aaM (hbox); have GW228 := aaM (gQ hg hP_.2); have GE228 := aaM (gQ hg hP_.2); clear hP_ hb hbox hg; obtain ⟨hcz4_0, hcz4_1, hcz4_2, hcz4_3, hcz4_4, hfz4_0, hfz4_1, hfz4_2, hfz4_3, hfz4_4⟩ := bE5 BK228.out))
  all_goals (go_ret; exact ⟨by first | rfl | (simp [errW_none, errW_some] <;> rfl) | (simp [*, errW_none, errW_some] <;> rfl) | (simp_all; done), by repeat (first | (with_reducible first | exact HB.out | apply lA | apply lN | apply lD | refine lS ?_ GE228.out) | exact HB.out)⟩)
 ·rw [if_neg c2] at H
  have c2b0 : decide (1000 < (l0_3.length : Int)) = false := decide_eq_false c2
  have c2b1 : decide (1000 < l0_3.length) = false := decide_eq_false (by omega)
  clear c2
  obtain rfl := Option.some.inj H
  go_enter Try.func8, Try.ntmps8
  go_wp2_with (first | ((with_reducible refine gate_dst (N := 1) rfl ?_); (try (refine gate_guard (by rfl) ?_; dsimp only)); refine box_event ?hg (N := 1) ?hd (cs := #[.int .i64 a0_0, .int .i64 a0_1, .int .i64 a0_2, .slice A0_3 l0_3.length c0_3, .slice A0_4 l0_4.length c0_4]) (t := 25) ?hr ?_; (case hd => rfl); (case hg => rfl); (case hr => first | (go_simp; done) | (go_simp; rfl)); intro gb228 hg w5 hbox hb; have hP_ := lQ (by repeat (first | (with_reducible first | exact HB.out | apply lA | apply lN | apply lD) | exact HB.out)) hb; replace HB := aaM hP_.1; have BK228 := aaM (hbox); have GW228 := aaM (gQ hg hP_.2); have GE228 := aaM (gQ hg hP_.2); clear hP_ hb hbox hg; obtain ⟨hcz6_0, hcz6_1, hcz6_2, hcz6_3, hcz6_4, hfz6_0, hfz6_1, hfz6_2, hfz6_3, hfz6_4⟩ := bE5 BK228.out))
  all_goals (go_ret; exact ⟨by first | rfl | (simp [errW_none, errW_some] <;> rfl) | (simp [*, errW_none, errW_some] <;> rfl) | (simp_all; done), by repeat (first | (with_reducible first | exact HB.out | apply lA | apply lN | apply lD | refine lS ?_ GE228.out) | exact HB.out)⟩)

/-! ### hist_may: function 33 -/
def hist_may.f (a0 : Int) (a1 : Int) (a2 : Int) : Option (Bool) := if a1 < 1 then (some false) else (if a1 > 257 then (some false) else (if a0 = 0 then (if a2 ≥ 2 then (if a2 ≤ 256 then (some true) else (if a0 = 1 then (some (a2 == 0)) else (some false))) else (if a0 = 1 then (some (a2 == 0)) else (some false))) else (if a0 = 1 then (some (a2 == 0)) else (some false))))
set_option maxHeartbeats 8000000 in
set_option maxRecDepth 100000 in
theorem hist_may.calls (a0 : Int) (a1 : Int) (a2 : Int) (r : Bool) (w : World) (h : hist_may.f a0 a1 a2 = some r) :
  Calls Try.prog 33 #[.int .i64 a0, .int .i64 a1, .int .i64 a2] w fun e w' => e = .returned (.bool r) ∧ Drawn0 w w' := by
 have H : (if a1 < 1 then (some false) else (if a1 > 257 then (some false) else (if a0 = 0 then (if a2 ≥ 2 then (if a2 ≤ 256 then (some true) else (if a0 = 1 then (some (a2 == 0)) else (some false))) else (if a0 = 1 then (some (a2 == 0)) else (some false))) else (if a0 = 1 then (some (a2 == 0)) else (some false))))) = some r := h
 clear h
 by_cases c4 : a1 < 1
 ·rw [if_pos c4] at H
  have c4b0 : decide (a1 < 1) = true := decide_eq_true c4
  clear c4
  obtain rfl := Option.some.inj H
  go_enter Try.func33, Try.ntmps33
  go_wp2
  all_goals (go_ret; exact ⟨by first | rfl | (simp; done) | (simp [*]; done), by repeat (first | exact Drawn0.refl _ | apply Drawn0.step)⟩)
 ·rw [if_neg c4] at H
  have c4b0 : decide (a1 < 1) = false := decide_eq_false c4
  clear c4
  by_cases c5 : a1 > 257
  ·rw [if_pos c5] at H
   have c5b0 : decide (257 < a1) = true := decide_eq_true c5
   clear c5
   obtain rfl := Option.some.inj H
   go_enter Try.func33, Try.ntmps33
   go_wp2
   all_goals (go_ret; exact ⟨by first | rfl | (simp; done) | (simp [*]; done), by repeat (first | exact Drawn0.refl _ | apply Drawn0.step)⟩)
  ·rw [if_neg c5] at H
   have c5b0 : decide (257 < a1) = false := decide_eq_false c5
   clear c5
   by_cases c6 : a0 = 0
   ·rw [if_pos c6] at H
    have c6b0 : (a0 == 0) = true := beq_iff_eq.mpr c6
    have c6b1 : (a0 != 0) = false := bne_eq_false_iff_eq.mpr c6
    clear c6
    by_cases c7 : a2 ≥ 2
    ·rw [if_pos c7] at H
     have c7b0 : decide (2 ≤ a2) = true := decide_eq_true c7
     clear c7
     by_cases c8 : a2 ≤ 256
     ·rw [if_pos c8] at H
      have c8b0 : decide (a2 ≤ 256) = true := decide_eq_true c8
      clear c8
      obtain rfl := Option.some.inj H
      go_enter Try.func33, Try.ntmps33
      go_wp2
      all_goals (go_ret; exact ⟨by first | rfl | (simp; done) | (simp [*]; done), by repeat (first | exact Drawn0.refl _ | apply Drawn0.step)⟩)
     ·rw [if_neg c8] at H
      have c8b0 : decide (a2 ≤ 256) = false := decide_eq_false c8
      clear c8
      by_cases c9 : a0 = 1
      ·rw [if_pos c9] at H
       have c9b0 : (a0 == 1) = true := beq_iff_eq.mpr c9
       have c9b1 : (a0 != 1) = false := bne_eq_false_iff_eq.mpr c9
       clear c9
       obtain rfl := Option.some.inj H
       go_enter Try.func33, Try.ntmps33
       go_wp2
       all_goals (go_ret; exact ⟨by first | rfl | (simp; done) | (simp [*]; done), by repeat (first | exact Drawn0.refl _ | apply Drawn0.step)⟩)
      ·rw [if_neg c9] at H
       have c9b0 : (a0 == 1) = false := beq_eq_false_iff_ne.mpr c9
       have c9b1 : (a0 != 1) = true := bne_iff_ne.mpr c9
       obtain rfl := Option.some.inj H
       go_enter Try.func33, Try.ntmps33
       go_wp2
       all_goals (go_ret; exact ⟨by first | rfl | (simp; done) | (simp [*]; done), by repeat (first | exact Drawn0.refl _ | apply Drawn0.step)⟩)
    ·rw [if_neg c7] at H
     have c7b0 : decide (2 ≤ a2) = false := decide_eq_false c7
     clear c7
     by_cases c10 : a0 = 1
     ·rw [if_pos c10] at H
      have c10b0 : (a0 == 1) = true := beq_iff_eq.mpr c10
      have c10b1 : (a0 != 1) = false := bne_eq_false_iff_eq.mpr c10
      clear c10
      obtain rfl := Option.some.inj H
      go_enter Try.func33, Try.ntmps33
      go_wp2
      all_goals (go_ret; exact ⟨by first | rfl | (simp; done) | (simp [*]; done), by repeat (first | exact Drawn0.refl _ | apply Drawn0.step)⟩)
     ·rw [if_neg c10] at H
      have c10b0 : (a0 == 1) = false := beq_eq_false_iff_ne.mpr c10
      have c10b1 : (a0 != 1) = true := bne_iff_ne.mpr c10
      obtain rfl := Option.some.inj H
      go_enter Try.func33, Try.ntmps33
      go_wp2
      all_goals (go_ret; exact ⟨by first | rfl | (simp; done) | (simp [*]; done), by repeat (first | exact Drawn0.refl _ | apply Drawn0.step)⟩)
   ·rw [if_neg c6] at H
    have c6b0 : (a0 == 0) = false := beq_eq_false_iff_ne.mpr c6
    have c6b1 : (a0 != 0) = true := bne_iff_ne.mpr c6
    by_cases c11 : a0 = 1
    ·rw [if_pos c11] at H
     have c11b0 : (a0 == 1) = true := beq_iff_eq.mpr c11
     have c11b1 : (a0 != 1) = false := bne_eq_false_iff_eq.mpr c11
     clear c11
     obtain rfl := Option.some.inj H
     go_enter Try.func33, Try.ntmps33
     go_wp2
     all_goals (go_ret; exact ⟨by first | rfl | (simp; done) | (simp [*]; done), by repeat (first | exact Drawn0.refl _ | apply Drawn0.step)⟩)
    ·rw [if_neg c11] at H
     have c11b0 : (a0 == 1) = false := beq_eq_false_iff_ne.mpr c11
     have c11b1 : (a0 != 1) = true := bne_iff_ne.mpr c11
     obtain rfl := Option.some.inj H
     go_enter Try.func33, Try.ntmps33
     go_wp2
     all_goals (go_ret; exact ⟨by first | rfl | (simp; done) | (simp [*]; done), by repeat (first | exact Drawn0.refl _ | apply Drawn0.step)⟩)

end Go.Proofs.Ytancajnbjmcamaa.QSplitLeaf
