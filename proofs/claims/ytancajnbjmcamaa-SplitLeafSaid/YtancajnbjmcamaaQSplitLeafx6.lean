-- Written by a program of this session (wip/tools/mkprint.py over the kit's print); Lean checks it.
import Derived.Test.YtancajnbjmcamaaQSplitLeafx0
import Derived.Test.YtancajnbjmcamaaQSplitLeafx3
import Derived.Test.YtancajnbjmcamaaQSplitLeafx4
import Derived.Test.YtancajnbjmcamaaQSplitLeafx5
namespace Go.Proofs.Ytancajnbjmcamaa.QSplitLeaf
open Go.RowKit Go.Proofs.YtancajnbjmcamaaW.PrintWords Go.Proofs.YtancajnbjmcamaaW.PrintLast Go.Proofs.YtancajnbjmcamaaW.PrintMore
attribute [local go_sem] max2_int min2_int max_two min_two max_three min_three max_four min_four   -- for this text's walks alone
set_option linter.unusedVariables false
set_option linter.unusedSimpArgs false

attribute [local go_sem high] eqA54
/-! ### spread_May: function 96 -/
mutual
def spread_May.j0 : Nat → Bool → Int → Int → Int → Option (Bool)
 | 0, _, _, _, _ => none
 | k + 1, x26, x176000, x176001, x176002 => if x26 = true then (some false) else (if x176001 > (wrap64 (1048576 * x176000)) then (spread_May.j1 k true x176000 x176001 x176002) else (spread_May.j1 k (decide (x176001 < (wrap64 ((-1048576) * x176000)))) x176000 x176001 x176002))
def spread_May.j1 : Nat → Bool → Int → Int → Int → Option (Bool)
 | 0, _, _, _, _ => none
 | k + 1, x40, x176000, x176001, x176002 => if x40 = true then (some false) else ((prod_Square.f x176001).bind fun bt179 => ((spread_bound.f x176000 x176001 x176002).bind fun bt181 => ((prod_Cmp.f k bt179.1 bt179.2 bt181.1 bt181.2).bind fun t183 => (some (decide (t183 ≤ 0))))))
end
def spread_May.f (k : Nat) (a0_0 : Int) (a0_1 : Int) (a0_2 : Int) : Option (Bool) := (spread_none.f).bind fun bt176 => (if (a0_0 == bt176.1 && (a0_1 == bt176.2.1 && (a0_2 == bt176.2.2))) = true then (some true) else (if a0_0 < 1 then (spread_May.j0 k true a0_0 a0_1 a0_2) else (if a0_0 > 1048576 then (spread_May.j0 k true a0_0 a0_1 a0_2) else (if a0_2 < 0 then (spread_May.j0 k true a0_0 a0_1 a0_2) else (spread_May.j0 k (decide (a0_2 > (wrap64 (1099511627776 * a0_0)))) a0_0 a0_1 a0_2)))))
theorem spread_May.mono_l : ∀ k, (∀ y0 y1 y2 y3, LeO (spread_May.j0 k y0 y1 y2 y3) (spread_May.j0 (k + 1) y0 y1 y2 y3)) ∧ (∀ y0 y1 y2 y3, LeO (spread_May.j1 k y0 y1 y2 y3) (spread_May.j1 (k + 1) y0 y1 y2 y3))
 | 0 => ⟨fun _ _ _ _ r h => by simp [spread_May.j0] at h, fun _ _ _ _ r h => by simp [spread_May.j1] at h⟩
 | k + 1 => by
  obtain ⟨ih0, ih1⟩ := spread_May.mono_l k
  refine ⟨?_, ?_⟩
  ·intro y0 y1 y2 y3
   unfold spread_May.j0
   repeat' first
   | (with_reducible exact ih0 _ _ _ _)
   | (with_reducible exact ih1 _ _ _ _)
   | (with_reducible exact prod_Cmp.mono _ _ _ _ _)
   | (with_reducible exact LeO.refl _)
   | (with_reducible exact LeO.none _)
   | (with_reducible refine LeO.ite ?_ ?_)
   | (with_reducible refine LeO.bind ?_ (fun _ => ?_))
   | exact ih0 _ _ _ _
   | exact ih1 _ _ _ _
   | exact prod_Cmp.mono _ _ _ _ _
   | exact LeO.none _
   | refine LeO.ite ?_ ?_
   | refine LeO.bind ?_ (fun _ => ?_)
  ·intro y0 y1 y2 y3
   unfold spread_May.j1
   repeat' first
   | (with_reducible exact ih0 _ _ _ _)
   | (with_reducible exact ih1 _ _ _ _)
   | (with_reducible exact prod_Cmp.mono _ _ _ _ _)
   | (with_reducible exact LeO.refl _)
   | (with_reducible exact LeO.none _)
   | (with_reducible refine LeO.ite ?_ ?_)
   | (with_reducible refine LeO.bind ?_ (fun _ => ?_))
   | exact ih0 _ _ _ _
   | exact ih1 _ _ _ _
   | exact prod_Cmp.mono _ _ _ _ _
   | exact LeO.none _
   | refine LeO.ite ?_ ?_
   | refine LeO.bind ?_ (fun _ => ?_)
theorem spread_May.mono : ∀ a0 a1 a2 k, LeO (spread_May.f k a0 a1 a2) (spread_May.f (k + 1) a0 a1 a2) := by
 intro a0 a1 a2 k
 obtain ⟨ih0, ih1⟩ := spread_May.mono_l k
 unfold spread_May.f
 repeat' first
   | (with_reducible exact ih0 _ _ _ _)
   | (with_reducible exact ih1 _ _ _ _)
   | (with_reducible exact prod_Cmp.mono _ _ _ _ _)
   | (with_reducible exact LeO.refl _)
   | (with_reducible exact LeO.none _)
   | (with_reducible refine LeO.ite ?_ ?_)
   | (with_reducible refine LeO.bind ?_ (fun _ => ?_))
   | exact ih0 _ _ _ _
   | exact ih1 _ _ _ _
   | exact prod_Cmp.mono _ _ _ _ _
   | exact LeO.none _
   | refine LeO.ite ?_ ?_
   | refine LeO.bind ?_ (fun _ => ?_)
def spread_May.T7 : Bool × List (List Nat × List Nat) := (true, [([], []), ([0], [0]), ([1], [1]), ([], []), ([3, 2], [3]), ([2, 4, 4], [2, 4]), ([5], [5]), ([6, 5, 0, 1, 2, 3, 4, 5, 6], [6])])
def spread_May.B7 : List Nat := [0, 1, 3, 0, 15, 31, 63, 127]
theorem spread_May.tab7 : rtab .any (opsOf Try.f96 7) = spread_May.T7 := by kernel_rfl
theorem spread_May.bits7 : waitsOk spread_May.T7.2 spread_May.B7 = true := by kernel_rfl
set_option maxHeartbeats 8000000 in
set_option maxRecDepth 100000 in
theorem spread_May.calls (k : Nat) (a0_0 : Int) (a0_1 : Int) (a0_2 : Int) (r : Bool) (w : World) (h : spread_May.f k a0_0 a0_1 a0_2 = some r) :
  Calls Try.prog 96 #[.agg #[.int .i64 a0_0, .int .i64 a0_1, .int .i64 a0_2]] w fun e w' => e = .returned (.bool r) ∧ Below w.heap.size w w' := by
 have hu54 := Try.underlying54
 have HB := aaM (Below.refl w.heap.size w)
 have H : ((spread_none.f).bind fun bt176 => (if (a0_0 == bt176.1 && (a0_1 == bt176.2.1 && (a0_2 == bt176.2.2))) = true then (some true) else (if a0_0 < 1 then (spread_May.j0 k true a0_0 a0_1 a0_2) else (if a0_0 > 1048576 then (spread_May.j0 k true a0_0 a0_1 a0_2) else (if a0_2 < 0 then (spread_May.j0 k true a0_0 a0_1 a0_2) else (spread_May.j0 k (decide (a0_2 > (wrap64 (1099511627776 * a0_0)))) a0_0 a0_1 a0_2)))))) = some r := h
 clear h
 replace H := ooB.mp H
 obtain ⟨⟨t176, t177, t178⟩, A20, H⟩ := H
 replace H : (if (a0_0 == t176 && (a0_1 == t177 && (a0_2 == t178))) = true then (some true) else (if a0_0 < 1 then (spread_May.j0 k true a0_0 a0_1 a0_2) else (if a0_0 > 1048576 then (spread_May.j0 k true a0_0 a0_1 a0_2) else (if a0_2 < 0 then (spread_May.j0 k true a0_0 a0_1 a0_2) else (spread_May.j0 k (decide (a0_2 > (wrap64 (1099511627776 * a0_0)))) a0_0 a0_1 a0_2))))) = some r := H
 have A2 := aaM A20
 clear A20
 by_cases c3 : (a0_0 == t176 && (a0_1 == t177 && (a0_2 == t178))) = true
 ·rw [if_pos c3] at H
  have c3b0 : (a0_0 == t176 && (a0_1 == t177 && (a0_2 == t178))) = true := c3
  (try (have c3b1 : decide (a0_0 = t176 && (a0_1 == t177 && (a0_2 == t178))) = true := by simpa using c3))
  (try (have c3b2 : (a0_0 == t176 && (a0_1 == t177 && (a0_2 == t178))) = true := by simpa using c3))
  clear c3
  obtain rfl := Option.some.inj H
  go_enter Try.func96, Try.ntmps96
  try go_wp2_with (first | ((with_reducible refine gate_dst (N := 1) rfl ?_); refine box_event ?hg (N := 1) ?hd (cs := #[.int .i64 a0_0, .int .i64 a0_1, .int .i64 a0_2]) (t := 54) ?hr ?_; (case hd => rfl); (case hg => rfl); (case hr => first | (go_simp; done) | (go_simp; rfl)); intro gb175 hg w4 hbox hb; have hP_ := lQ (by repeat (first | (with_reducible first | exact HB.out | apply lA | apply lN | apply lD) | exact HB.out)) hb; replace HB := aaM hP_.1; have BK175 := aaM (hbox); have GW175 := aaM (gQ hg hP_.2); have GE175 := aaM (gQ hg hP_.2); clear hP_ hb hbox hg))
  replace BK175 := aaM (bD BK175.out)
  replace HB := aaM (lD HB.out)
  refine start_ (n := 3) (S := fun w' => w'.cell? ⟨gb175, 0, none⟩ = some (.int .i64 a0_0) ∧ w'.cell? ⟨gb175, 1, none⟩ = some (.int .i64 a0_1) ∧ w'.cell? ⟨gb175, 2, none⟩ = some (.int .i64 a0_2)) (ds := []) #[false, false, false] (by kernel_rfl) rfl rfl ⟨(bC BK175.out 0).trans rfl, (bC BK175.out 1).trans rfl, (bC BK175.out 2).trans rfl⟩ (fun hHeld => ?_)
  generalize w4.drew = w5 at BK175 HB hHeld ⊢
  refine take_ (i := 0) (N := some 3) (v := ?_) (a' := ?_) #[true, false, false] rfl rfl (by kernel_rfl) (fun _ _ _ h => h) (Or.inl ⟨by rfl, ?_⟩) hHeld ?_ ?_
  rotate_left
  ·rintro w' ⟨s0, s1, s2⟩
   go_simp
   with_reducible rfl
  rotate_left
  ·simp only [Act.put, ssB, ssZ, ssS, i64_w, i32_w]
   rfl
  refine one_ (i := 1) (N := some 4) #[true, true, false] rfl rfl (by kernel_rfl) (by decide) (fun K hK => ?_)
  refine goes_ Try.func100 (by kernel_rfl) rfl #[] (by rfl) rfl rfl (by (try simp only [mmT, mmC, mmN]); first | done | rfl | (simp only [ddD, ddT]; rfl)) ?_
  with_reducible refine (spread_none.calls  t176 t177 t178 _ A2.out).mono ?_
  rintro e w6 ⟨rfl, hb⟩
  refine ⟨_, rfl, ?_⟩
  replace BK175 := aaM (bX hb BK175.out)
  replace HB := aaM (lP (by repeat (first | (with_reducible first | exact HB.out | apply lA | apply lN | apply lD | refine lS ?_ GE175.out) | exact HB.out)) hb)
  (try clear hb)
  (try clear hb2)
  (try clear hk)
  (try clear hi)
  refine hK.out _ _ ⟨(bC BK175.out 0).trans rfl, (bC BK175.out 1).trans rfl, (bC BK175.out 2).trans rfl⟩ (fun hHeld => ?_)
  clear hK K
  refine norm_ (a' := ?_) ?_ ?_
  rotate_left
  ·show Act.put _ (some 4) _ = _
   simp only [Act.put, ssB, ssZ, ssS, i64_w, i32_w]
   rfl
  refine pure_ (i := 2) (N := some 5) (v := ?_) (a' := ?_) #[true, true, true] rfl rfl (by kernel_rfl) (fun _ _ _ h => h) (Or.inl ⟨by rfl, ?_⟩) ?_ ?_
  rotate_left
  ·intro w'
   go_simp
   with_reducible rfl
  rotate_left
  ·simp only [Act.put, ssB, ssZ, ssS, i64_w, i32_w]
   rfl
  refine done_ (by kernel_rfl) ?_
  try go_wp2
  all_goals (go_ret; exact ⟨by first | rfl | (simp [errW_none, errW_some] <;> rfl) | (simp [*, errW_none, errW_some] <;> rfl) | (simp_all; done), by repeat (first | (with_reducible first | exact HB.out | apply lA | apply lN | apply lD | refine lS ?_ GE175.out) | exact HB.out)⟩)
 ·rw [if_neg c3] at H
  have c3b0 : (a0_0 == t176 && (a0_1 == t177 && (a0_2 == t178))) = false := by simpa using c3
  (try (have c3b1 : decide (a0_0 = t176 && (a0_1 == t177 && (a0_2 == t178))) = false := by simpa using c3))
  (try (have c3b2 : (a0_0 == t176 && (a0_1 == t177 && (a0_2 == t178))) = false := by simpa using c3))
  (try (have c3b3 : ¬ (a0_0 = t176 && (a0_1 == t177 && (a0_2 == t178))) := by simpa using c3))
  clear c3
  have HC7 := aaM H
  clear H
  go_enter Try.func96, Try.ntmps96
  try go_wp2_with (first | ((with_reducible refine gate_dst (N := 1) rfl ?_); refine box_event ?hg (N := 1) ?hd (cs := #[.int .i64 a0_0, .int .i64 a0_1, .int .i64 a0_2]) (t := 54) ?hr ?_; (case hd => rfl); (case hg => rfl); (case hr => first | (go_simp; done) | (go_simp; rfl)); intro gb175 hg w8 hbox hb; have hP_ := lQ (by repeat (first | (with_reducible first | exact HB.out | apply lA | apply lN | apply lD) | exact HB.out)) hb; replace HB := aaM hP_.1; have BK175 := aaM (hbox); have GW175 := aaM (gQ hg hP_.2); have GE175 := aaM (gQ hg hP_.2); clear hP_ hb hbox hg))
  replace BK175 := aaM (bD BK175.out)
  replace HB := aaM (lD HB.out)
  refine start_ (n := 3) (S := fun w' => w'.cell? ⟨gb175, 0, none⟩ = some (.int .i64 a0_0) ∧ w'.cell? ⟨gb175, 1, none⟩ = some (.int .i64 a0_1) ∧ w'.cell? ⟨gb175, 2, none⟩ = some (.int .i64 a0_2)) (ds := []) #[false, false, false] (by kernel_rfl) rfl rfl ⟨(bC BK175.out 0).trans rfl, (bC BK175.out 1).trans rfl, (bC BK175.out 2).trans rfl⟩ (fun hHeld => ?_)
  generalize w8.drew = w9 at BK175 HB hHeld ⊢
  refine take_ (i := 0) (N := some 3) (v := ?_) (a' := ?_) #[true, false, false] rfl rfl (by kernel_rfl) (fun _ _ _ h => h) (Or.inl ⟨by rfl, ?_⟩) hHeld ?_ ?_
  rotate_left
  ·rintro w' ⟨s0, s1, s2⟩
   go_simp
   with_reducible rfl
  rotate_left
  ·simp only [Act.put, ssB, ssZ, ssS, i64_w, i32_w]
   rfl
  refine one_ (i := 1) (N := some 4) #[true, true, false] rfl rfl (by kernel_rfl) (by decide) (fun K hK => ?_)
  refine goes_ Try.func100 (by kernel_rfl) rfl #[] (by rfl) rfl rfl (by (try simp only [mmT, mmC, mmN]); first | done | rfl | (simp only [ddD, ddT]; rfl)) ?_
  with_reducible refine (spread_none.calls  t176 t177 t178 _ A2.out).mono ?_
  rintro e w10 ⟨rfl, hb⟩
  refine ⟨_, rfl, ?_⟩
  replace BK175 := aaM (bX hb BK175.out)
  replace HB := aaM (lP (by repeat (first | (with_reducible first | exact HB.out | apply lA | apply lN | apply lD | refine lS ?_ GE175.out) | exact HB.out)) hb)
  (try clear hb)
  (try clear hb2)
  (try clear hk)
  (try clear hi)
  refine hK.out _ _ ⟨(bC BK175.out 0).trans rfl, (bC BK175.out 1).trans rfl, (bC BK175.out 2).trans rfl⟩ (fun hHeld => ?_)
  clear hK K
  refine norm_ (a' := ?_) ?_ ?_
  rotate_left
  ·show Act.put _ (some 4) _ = _
   simp only [Act.put, ssB, ssZ, ssS, i64_w, i32_w]
   rfl
  refine pure_ (i := 2) (N := some 5) (v := ?_) (a' := ?_) #[true, true, true] rfl rfl (by kernel_rfl) (fun _ _ _ h => h) (Or.inl ⟨by rfl, ?_⟩) ?_ ?_
  rotate_left
  ·intro w'
   go_simp
   with_reducible rfl
  rotate_left
  ·simp only [Act.put, ssB, ssZ, ssS, i64_w, i32_w]
   rfl
  refine done_ (by kernel_rfl) ?_
  go_upto_region 3 with (fail)
  go_cut [26] (fun v26 wc => ∃ (kq : Nat) (x26_6 : Bool), v26 = .bool x26_6 ∧ Aside0 (spread_May.j0 kq x26_6 a0_0 a0_1 a0_2 = some r) ∧ Aside0 (kq ≤ k) ∧ Aside0 (wc.heap[gb175]? = some (.cells #[.int .i64 a0_0, .int .i64 a0_1, .int .i64 a0_2] 54 (0, 0))) ∧ Aside0 (Below w.heap.size w wc))
  case first =>
   have H := HC7.out
   clear HC7
   by_cases c11 : a0_0 < 1
   ·rw [if_pos c11] at H
    have c11b0 : decide (a0_0 < 1) = true := decide_eq_true c11
    clear c11
    (first | rw [c11b0] | (simp only [i64_w, i32_w]; rw [c11b0]) | skip)
    have H' := aaM H
    clear H
    obtain ⟨hcz12_0, hcz12_1, hcz12_2, hfz12_0, hfz12_1, hfz12_2⟩ := bE3 BK175.out
    go_wp2
    go_meet
    case rel => exact ⟨_, (true), (by first | rfl | (simp; done) | (simp [*]; done)), H', ⟨by first | omega | exact Nat.le_refl _⟩, ⟨by (with_reducible repeat (first | refine bN ?_ _ | refine bD ?_ | refine bA ?_ _)); exact BK175.out⟩, ⟨by repeat (first | (with_reducible first | exact HB.out | apply lA | apply lN | apply lD | refine lS ?_ GE175.out) | exact HB.out)⟩⟩
   ·rw [if_neg c11] at H
    have c11b0 : decide (a0_0 < 1) = false := decide_eq_false c11
    clear c11
    (first | rw [c11b0] | (simp only [i64_w, i32_w]; rw [c11b0]) | skip)
    by_cases c13 : a0_0 > 1048576
    ·rw [if_pos c13] at H
     have c13b0 : decide (1048576 < a0_0) = true := decide_eq_true c13
     clear c13
     have H' := aaM H
     clear H
     obtain ⟨hcz14_0, hcz14_1, hcz14_2, hfz14_0, hfz14_1, hfz14_2⟩ := bE3 BK175.out
     go_wp2
     go_meet
     case rel => exact ⟨_, (true), (by first | rfl | (simp; done) | (simp [*]; done)), H', ⟨by first | omega | exact Nat.le_refl _⟩, ⟨by (with_reducible repeat (first | refine bN ?_ _ | refine bD ?_ | refine bA ?_ _)); exact BK175.out⟩, ⟨by repeat (first | (with_reducible first | exact HB.out | apply lA | apply lN | apply lD | refine lS ?_ GE175.out) | exact HB.out)⟩⟩
    ·rw [if_neg c13] at H
     have c13b0 : decide (1048576 < a0_0) = false := decide_eq_false c13
     clear c13
     by_cases c15 : a0_2 < 0
     ·rw [if_pos c15] at H
      have c15b0 : decide (a0_2 < 0) = true := decide_eq_true c15
      clear c15
      have H' := aaM H
      clear H
      obtain ⟨hcz16_0, hcz16_1, hcz16_2, hfz16_0, hfz16_1, hfz16_2⟩ := bE3 BK175.out
      go_wp2
      go_meet
      case rel => exact ⟨_, (true), (by first | rfl | (simp; done) | (simp [*]; done)), H', ⟨by first | omega | exact Nat.le_refl _⟩, ⟨by (with_reducible repeat (first | refine bN ?_ _ | refine bD ?_ | refine bA ?_ _)); exact BK175.out⟩, ⟨by repeat (first | (with_reducible first | exact HB.out | apply lA | apply lN | apply lD | refine lS ?_ GE175.out) | exact HB.out)⟩⟩
     ·rw [if_neg c15] at H
      have c15b0 : decide (a0_2 < 0) = false := decide_eq_false c15
      clear c15
      have H' := aaM H
      clear H
      obtain ⟨hcz17_0, hcz17_1, hcz17_2, hfz17_0, hfz17_1, hfz17_2⟩ := bE3 BK175.out
      go_wp2
      go_meet
      case rel => exact ⟨_, (decide (a0_2 > (wrap64 (1099511627776 * a0_0)))), (by first | rfl | (simp; done) | (simp [*]; done)), H', ⟨by first | omega | exact Nat.le_refl _⟩, ⟨by (with_reducible repeat (first | refine bN ?_ _ | refine bD ?_ | refine bA ?_ _)); exact BK175.out⟩, ⟨by repeat (first | (with_reducible first | exact HB.out | apply lA | apply lN | apply lD | refine lS ?_ GE175.out) | exact HB.out)⟩⟩
  case rest =>
   clear HC7
   try clear c1
   try clear p2
   try clear c3
   try clear c3b0
   try clear c3b1
   try clear c3b2
   try clear p6
   try clear c9
   try clear c10
   try clear c11
   try clear c11b0
   try clear c13
   try clear c13b0
   try clear c15
   try clear c15b0
   try clear hcz12_0
   try clear hcz12_1
   try clear hcz12_2
   try clear hcz14_0
   try clear hcz14_1
   try clear hcz14_2
   try clear hcz16_0
   try clear hcz16_1
   try clear hcz16_2
   try clear hcz17_0
   try clear hcz17_1
   try clear hcz17_2
   try clear hfz12_0
   try clear hfz12_1
   try clear hfz12_2
   try clear hfz14_0
   try clear hfz14_1
   try clear hfz14_2
   try clear hfz16_0
   try clear hfz16_1
   try clear hfz16_2
   try clear hfz17_0
   try clear hfz17_1
   try clear hfz17_2
   obtain ⟨kq, x26_6, rfl, HA, HJ6, BK175, HB⟩ := hcut
   cases kq with
   | zero => exact absurd HA.out (by simp [spread_May.j0])
   | succ kj6 =>
    have H := HA.out
    clear HA
    simp only [spread_May.j0] at H
    by_cases c18 : x26_6 = true
    ·subst c18
     have H1 : (some false) = some r := by rw [if_pos rfl] at H; exact H
     clear H
     have H := H1
     clear H1
     obtain rfl := Option.some.inj H
     go_wp2
     all_goals (go_ret; exact ⟨by first | rfl | (simp [errW_none, errW_some] <;> rfl) | (simp [*, errW_none, errW_some] <;> rfl) | (simp_all; done), by repeat (first | (with_reducible first | exact HB.out | apply lA | apply lN | apply lD | refine lS ?_ GE175.out) | exact HB.out)⟩)
    ·replace c18 := Bool.eq_false_iff.mpr c18
     subst c18
     have H1 : (if a0_1 > (wrap64 (1048576 * a0_0)) then (spread_May.j1 kj6 true a0_0 a0_1 a0_2) else (spread_May.j1 kj6 (decide (a0_1 < (wrap64 ((-1048576) * a0_0)))) a0_0 a0_1 a0_2)) = some r := by rw [if_neg (show ¬ (false = true) by decide)] at H; exact H
     clear H
     have H := H1
     clear H1
     have HC19 := aaM H
     clear H
     go_upto_region 5 with (fail)
     go_cut [40] (fun v40 wc => ∃ (kq : Nat) (x40_18 : Bool), v40 = .bool x40_18 ∧ Aside0 (spread_May.j1 kq x40_18 a0_0 a0_1 a0_2 = some r) ∧ Aside0 (kq ≤ kj6) ∧ Aside0 (wc.heap[gb175]? = some (.cells #[.int .i64 a0_0, .int .i64 a0_1, .int .i64 a0_2] 54 (0, 0))) ∧ Aside0 (Below w.heap.size w wc))
     case first =>
      have H := HC19.out
      clear HC19
      by_cases c20 : a0_1 > (wrap64 (1048576 * a0_0))
      ·rw [if_pos c20] at H
       have c20b0 : decide ((wrap64 (1048576 * a0_0)) < a0_1) = true := decide_eq_true c20
       clear c20
       (first | rw [c20b0] | (simp only [i64_w, i32_w]; rw [c20b0]) | skip)
       have H' := aaM H
       clear H
       obtain ⟨hcz21_0, hcz21_1, hcz21_2, hfz21_0, hfz21_1, hfz21_2⟩ := bE3 BK175.out
       go_wp2
       go_meet
       case rel => exact ⟨_, (true), (by first | rfl | (simp; done) | (simp [*]; done)), H', ⟨by have := HJ6.out; first | omega | exact Nat.le_refl _⟩, ⟨by (with_reducible repeat (first | refine bN ?_ _ | refine bD ?_ | refine bA ?_ _)); exact BK175.out⟩, ⟨by repeat (first | (with_reducible first | exact HB.out | apply lA | apply lN | apply lD | refine lS ?_ GE175.out) | exact HB.out)⟩⟩
      ·rw [if_neg c20] at H
       have c20b0 : decide ((wrap64 (1048576 * a0_0)) < a0_1) = false := decide_eq_false c20
       clear c20
       (first | rw [c20b0] | (simp only [i64_w, i32_w]; rw [c20b0]) | skip)
       have H' := aaM H
       clear H
       obtain ⟨hcz22_0, hcz22_1, hcz22_2, hfz22_0, hfz22_1, hfz22_2⟩ := bE3 BK175.out
       go_wp2
       go_meet
       case rel => exact ⟨_, (decide (a0_1 < (wrap64 ((-1048576) * a0_0)))), (by first | rfl | (simp; done) | (simp [*]; done)), H', ⟨by have := HJ6.out; first | omega | exact Nat.le_refl _⟩, ⟨by (with_reducible repeat (first | refine bN ?_ _ | refine bD ?_ | refine bA ?_ _)); exact BK175.out⟩, ⟨by repeat (first | (with_reducible first | exact HB.out | apply lA | apply lN | apply lD | refine lS ?_ GE175.out) | exact HB.out)⟩⟩
     case rest =>
      clear HC19
      try clear c1
      try clear c2
      try clear p2
      try clear c3
      try clear c3b0
      try clear c3b1
      try clear c3b2
      try clear p6
      try clear c9
      try clear c10
      try clear c11
      try clear c11b0
      try clear c13
      try clear c13b0
      try clear c15
      try clear c15b0
      try clear c18
      try clear c20
      try clear c20b0
      try clear hcz12_0
      try clear hcz12_1
      try clear hcz12_2
      try clear hcz14_0
      try clear hcz14_1
      try clear hcz14_2
      try clear hcz16_0
      try clear hcz16_1
      try clear hcz16_2
      try clear hcz17_0
      try clear hcz17_1
      try clear hcz17_2
      try clear hcz21_0
      try clear hcz21_1
      try clear hcz21_2
      try clear hcz22_0
      try clear hcz22_1
      try clear hcz22_2
      try clear hfz12_0
      try clear hfz12_1
      try clear hfz12_2
      try clear hfz14_0
      try clear hfz14_1
      try clear hfz14_2
      try clear hfz16_0
      try clear hfz16_1
      try clear hfz16_2
      try clear hfz17_0
      try clear hfz17_1
      try clear hfz17_2
      try clear hfz21_0
      try clear hfz21_1
      try clear hfz21_2
      try clear hfz22_0
      try clear hfz22_1
      try clear hfz22_2
      try clear p2
      try clear p6
      obtain ⟨kq, x40_18, rfl, HA, HJ18, BK175, HB⟩ := hcut
      cases kq with
      | zero => exact absurd HA.out (by simp [spread_May.j1])
      | succ kj18 =>
       have H := HA.out
       clear HA
       simp only [spread_May.j1] at H
       by_cases c23 : x40_18 = true
       ·subst c23
        have H1 : (some false) = some r := by rw [if_pos rfl] at H; exact H
        clear H
        have H := H1
        clear H1
        obtain rfl := Option.some.inj H
        go_wp2
        all_goals (go_ret; exact ⟨by first | rfl | (simp [errW_none, errW_some] <;> rfl) | (simp [*, errW_none, errW_some] <;> rfl) | (simp_all; done), by repeat (first | (with_reducible first | exact HB.out | apply lA | apply lN | apply lD | refine lS ?_ GE175.out) | exact HB.out)⟩)
       ·replace c23 := Bool.eq_false_iff.mpr c23
        subst c23
        have H1 : ((prod_Square.f a0_1).bind fun bt179 => ((spread_bound.f a0_0 a0_1 a0_2).bind fun bt181 => ((prod_Cmp.f kj18 bt179.1 bt179.2 bt181.1 bt181.2).bind fun t183 => (some (decide (t183 ≤ 0)))))) = some r := by rw [if_neg (show ¬ (false = true) by decide)] at H; exact H
        clear H
        have H := H1
        clear H1
        replace H := ooB.mp H
        obtain ⟨⟨t179, t180⟩, A240, H⟩ := H
        replace H : ((spread_bound.f a0_0 a0_1 a0_2).bind fun bt181 => ((prod_Cmp.f kj18 t179 t180 bt181.1 bt181.2).bind fun t183 => (some (decide (t183 ≤ 0))))) = some r := H
        have A24 := aaM A240
        clear A240
        replace H := ooB.mp H
        obtain ⟨⟨t181, t182⟩, A250, H⟩ := H
        replace H : ((prod_Cmp.f kj18 t179 t180 t181 t182).bind fun t183 => (some (decide (t183 ≤ 0)))) = some r := H
        have A25 := aaM A250
        clear A250
        replace H := ooB.mp H
        obtain ⟨t183, A260, H⟩ := H
        replace H : (some (decide (t183 ≤ 0))) = some r := H
        have A26 := aaM A260
        clear A260
        obtain rfl := Option.some.inj H
        try go_wp2
        replace BK175 := aaM (bD BK175.out)
        replace HB := aaM (lD HB.out)
        refine start_ (n := 8) (S := fun w' => w'.cell? ⟨gb175, 0, none⟩ = some (.int .i64 a0_0) ∧ w'.cell? ⟨gb175, 1, none⟩ = some (.int .i64 a0_1) ∧ w'.cell? ⟨gb175, 2, none⟩ = some (.int .i64 a0_2)) (ds := []) #[false, false, false, false, false, false, false, false] (by kernel_rfl) rfl rfl ⟨(bC BK175.out 0).trans rfl, (bC BK175.out 1).trans rfl, (bC BK175.out 2).trans rfl⟩ (fun hHeld => ?_); refine with_tabW spread_May.tab7 spread_May.bits7 (fun HT_ HW_ => ?_)
        generalize wc.drew = w27 at BK175 HB hHeld ⊢
        refine pure_ (i := 0) (N := some 41) (v := ?_) (a' := ?_) #[true, false, false, false, false, false, false, false] rfl rfl (any_of HT_.out (by kernel_rfl)) (fun _ _ _ h => h) (Or.inl ⟨by rfl, ?_⟩) ?_ ?_
        rotate_left
        ·intro w'
         go_simp
         with_reducible rfl
        rotate_left
        ·simp only [Act.put, ssB, ssZ, ssS, i64_w, i32_w]
         rfl
        refine take_ (i := 1) (N := some 42) (v := ?_) (a' := ?_) #[true, true, false, false, false, false, false, false] rfl rfl (take_ofW HT_.out HW_.out (by kernel_rfl)) (fun _ _ _ h => h) (Or.inl ⟨by rfl, ?_⟩) hHeld ?_ ?_
        rotate_left
        ·rintro w' ⟨s0, s1, s2⟩
         go_simp
         with_reducible rfl
        rotate_left
        ·simp only [Act.put, ssB, ssZ, ssS, i64_w, i32_w]
         rfl
        refine take_ (i := 3) (N := some 44) (v := ?_) (a' := ?_) #[true, true, false, true, false, false, false, false] rfl rfl (take_ofW HT_.out HW_.out (by kernel_rfl)) (fun _ _ _ h => h) (Or.inl ⟨by rfl, ?_⟩) hHeld ?_ ?_
        rotate_left
        ·rintro w' ⟨s0, s1, s2⟩
         go_simp
         with_reducible rfl
        rotate_left
        ·simp only [Act.put, ssB, ssZ, ssS, i64_w, i32_w]
         rfl
        refine one_ (i := 2) (N := some 43) #[true, true, true, true, false, false, false, false] rfl rfl (one_of HT_.out (by kernel_rfl)) (by decide) (fun K hK => ?_)
        refine goes_ Try.func98 (by kernel_rfl) rfl #[.int .i64 a0_1] (by rfl) rfl rfl (by (try simp only [mmT, mmC, mmN]); first | done | rfl | (simp only [ddD, ddT]; rfl)) ?_
        with_reducible refine (prod_Square.calls a0_1 t179 t180 _ A24.out).mono ?_
        rintro e w28 ⟨rfl, hb⟩
        refine ⟨_, rfl, ?_⟩
        replace BK175 := aaM (bX hb BK175.out)
        replace HB := aaM (lP (by repeat (first | (with_reducible first | exact HB.out | apply lA | apply lN | apply lD | refine lS ?_ GE175.out) | exact HB.out)) hb)
        (try clear hb)
        (try clear hb2)
        (try clear hk)
        (try clear hi)
        refine hK.out _ _ ⟨(bC BK175.out 0).trans rfl, (bC BK175.out 1).trans rfl, (bC BK175.out 2).trans rfl⟩ (fun hHeld => ?_)
        clear hK K
        refine norm_ (a' := ?_) ?_ ?_
        rotate_left
        ·show Act.put _ (some 43) _ = _
         simp only [Act.put, ssB, ssZ, ssS, i64_w, i32_w]
         rfl
        refine one_ (i := 4) (N := some 45) #[true, true, true, true, true, false, false, false] rfl rfl (one_of HT_.out (by kernel_rfl)) (by decide) (fun K hK => ?_)
        refine goes_ Try.func102 (by kernel_rfl) rfl #[.agg #[.int .i64 a0_0, .int .i64 a0_1, .int .i64 a0_2]] (by rfl) rfl rfl (by (try simp only [mmT, mmC, mmN]); first | done | rfl | (simp only [ddD, ddT]; rfl)) ?_
        with_reducible refine (spread_bound.calls a0_0 a0_1 a0_2 t181 t182 _ A25.out).mono ?_
        rintro e w29 ⟨rfl, hb⟩
        refine ⟨_, rfl, ?_⟩
        replace BK175 := aaM (bX hb BK175.out)
        replace HB := aaM (lP (by repeat (first | (with_reducible first | exact HB.out | apply lA | apply lN | apply lD | refine lS ?_ GE175.out) | exact HB.out)) hb)
        (try clear hb)
        (try clear hb2)
        (try clear hk)
        (try clear hi)
        refine hK.out _ _ ⟨(bC BK175.out 0).trans rfl, (bC BK175.out 1).trans rfl, (bC BK175.out 2).trans rfl⟩ (fun hHeld => ?_)
        clear hK K
        refine norm_ (a' := ?_) ?_ ?_
        rotate_left
        ·show Act.put _ (some 45) _ = _
         simp only [Act.put, ssB, ssZ, ssS, i64_w, i32_w]
         rfl
        refine one_ (i := 5) (N := some 46) #[true, true, true, true, true, true, false, false] rfl rfl (one_of HT_.out (by kernel_rfl)) (by decide) (fun K hK => ?_)
        refine goes_ Try.func101 (by kernel_rfl) rfl #[.agg #[.int .u64 t179, .int .u64 t180], .agg #[.int .u64 t181, .int .u64 t182]] (by rfl) rfl rfl (by (try simp only [mmT, mmC, mmN]); first | done | rfl | (simp only [ddD, ddT]; rfl)) ?_
        with_reducible refine (prod_Cmp.calls kj18 t179 t180 t181 t182 t183 _ A26.out).mono ?_
        rintro e w30 ⟨rfl, hb⟩
        refine ⟨_, rfl, ?_⟩
        replace BK175 := aaM (bX hb BK175.out)
        replace HB := aaM (lP (by repeat (first | (with_reducible first | exact HB.out | apply lA | apply lN | apply lD | refine lS ?_ GE175.out) | exact HB.out)) hb)
        (try clear hb)
        (try clear hb2)
        (try clear hk)
        (try clear hi)
        refine hK.out _ _ ⟨(bC BK175.out 0).trans rfl, (bC BK175.out 1).trans rfl, (bC BK175.out 2).trans rfl⟩ (fun hHeld => ?_)
        clear hK K
        refine norm_ (a' := ?_) ?_ ?_
        rotate_left
        ·show Act.put _ (some 46) _ = _
         simp only [Act.put, ssB, ssZ, ssS, i64_w, i32_w]
         rfl
        refine pure_ (i := 6) (N := some 47) (v := ?_) (a' := ?_) #[true, true, true, true, true, true, true, false] rfl rfl (any_of HT_.out (by kernel_rfl)) (fun _ _ _ h => h) (Or.inl ⟨by rfl, ?_⟩) ?_ ?_
        rotate_left
        ·intro w'
         go_simp
         with_reducible rfl
        rotate_left
        ·simp only [Act.put, ssB, ssZ, ssS, i64_w, i32_w]
         rfl
        refine pure_ (i := 7) (N := some 2) (v := ?_) (a' := ?_) #[true, true, true, true, true, true, true, true] rfl rfl (any_of HT_.out (by kernel_rfl)) (fun _ _ _ h => h) (Or.inl ⟨by rfl, ?_⟩) ?_ ?_
        rotate_left
        ·intro w'
         go_simp
         with_reducible rfl
        rotate_left
        ·simp only [Act.put, ssB, ssZ, ssS, i64_w, i32_w]
         rfl
        refine done_ (done_of HT_.out (by kernel_rfl)) ?_
        try go_wp2
        all_goals (go_ret; exact ⟨by first | rfl | (simp [errW_none, errW_some] <;> rfl) | (simp [*, errW_none, errW_some] <;> rfl) | (simp_all; done), by repeat (first | (with_reducible first | exact HB.out | apply lA | apply lN | apply lD | refine lS ?_ GE175.out) | exact HB.out)⟩)

/-! ### spread_there: function 97 -/
def spread_there.f (k : Nat) (a0_0 : Int) (a0_1 : Int) (a0_2 : Int) : Option (Bool) := if a0_0 > 0 then ((spread_May.f k a0_0 a0_1 a0_2).bind fun t185 => (some t185)) else (some false)
theorem spread_there.mono : ∀ a0 a1 a2 k, LeO (spread_there.f k a0 a1 a2) (spread_there.f (k + 1) a0 a1 a2) := by
 intro a0 a1 a2 k
 unfold spread_there.f
 repeat' first
   | (with_reducible exact spread_May.mono _ _ _ _)
   | (with_reducible exact LeO.refl _)
   | (with_reducible exact LeO.none _)
   | (with_reducible refine LeO.ite ?_ ?_)
   | (with_reducible refine LeO.bind ?_ (fun _ => ?_))
   | exact spread_May.mono _ _ _ _
   | exact LeO.none _
   | refine LeO.ite ?_ ?_
   | refine LeO.bind ?_ (fun _ => ?_)
set_option maxHeartbeats 8000000 in
set_option maxRecDepth 100000 in
theorem spread_there.calls (k : Nat) (a0_0 : Int) (a0_1 : Int) (a0_2 : Int) (r : Bool) (w : World) (h : spread_there.f k a0_0 a0_1 a0_2 = some r) :
  Calls Try.prog 97 #[.agg #[.int .i64 a0_0, .int .i64 a0_1, .int .i64 a0_2]] w fun e w' => e = .returned (.bool r) ∧ Below w.heap.size w w' := by
 have hu54 := Try.underlying54
 have HB := aaM (Below.refl w.heap.size w)
 have H : (if a0_0 > 0 then ((spread_May.f k a0_0 a0_1 a0_2).bind fun t185 => (some t185)) else (some false)) = some r := h
 clear h
 by_cases c2 : a0_0 > 0
 ·rw [if_pos c2] at H
  have c2b0 : decide (0 < a0_0) = true := decide_eq_true c2
  clear c2
  replace H := ooB.mp H
  obtain ⟨t185, A30, H⟩ := H
  replace H : (some t185) = some r := H
  have A3 := aaM A30
  clear A30
  obtain rfl := Option.some.inj H
  go_enter Try.func97, Try.ntmps97
  go_wp2_with (first | ((with_reducible refine gate_dst (N := 1) rfl ?_); refine box_event ?hg (N := 1) ?hd (cs := #[.int .i64 a0_0, .int .i64 a0_1, .int .i64 a0_2]) (t := 54) ?hr ?_; (case hd => rfl); (case hg => rfl); (case hr => first | (go_simp; done) | (go_simp; rfl)); intro gb184 hg w4 hbox hb; have hP_ := lQ (by repeat (first | (with_reducible first | exact HB.out | apply lA | apply lN | apply lD) | exact HB.out)) hb; replace HB := aaM hP_.1; have BK184 := aaM (hbox); have GW184 := aaM (gQ hg hP_.2); have GE184 := aaM (gQ hg hP_.2); clear hP_ hb hbox hg; obtain ⟨hcz5_0, hcz5_1, hcz5_2, hfz5_0, hfz5_1, hfz5_2⟩ := bE3 BK184.out) | (go_at_call 96; (with_reducible refine (spread_May.calls k a0_0 a0_1 a0_2 t185 _ A3.out).mono ?_); rintro e w6 ⟨rfl, hb⟩; replace BK184 := aaM (bX hb BK184.out); replace HB := aaM (lP (by repeat (first | (with_reducible first | exact HB.out | apply lA | apply lN | apply lD | refine lS ?_ GE184.out) | exact HB.out)) hb); (try clear hb); (try clear hb2); (try clear hk); (try clear hi)))
  all_goals (go_ret; exact ⟨by first | rfl | (simp [errW_none, errW_some] <;> rfl) | (simp [*, errW_none, errW_some] <;> rfl) | (simp_all; done), by repeat (first | (with_reducible first | exact HB.out | apply lA | apply lN | apply lD | refine lS ?_ GE184.out) | exact HB.out)⟩)
 ·rw [if_neg c2] at H
  have c2b0 : decide (0 < a0_0) = false := decide_eq_false c2
  clear c2
  obtain rfl := Option.some.inj H
  go_enter Try.func97, Try.ntmps97
  go_wp2_with (first | ((with_reducible refine gate_dst (N := 1) rfl ?_); refine box_event ?hg (N := 1) ?hd (cs := #[.int .i64 a0_0, .int .i64 a0_1, .int .i64 a0_2]) (t := 54) ?hr ?_; (case hd => rfl); (case hg => rfl); (case hr => first | (go_simp; done) | (go_simp; rfl)); intro gb184 hg w7 hbox hb; have hP_ := lQ (by repeat (first | (with_reducible first | exact HB.out | apply lA | apply lN | apply lD) | exact HB.out)) hb; replace HB := aaM hP_.1; have BK184 := aaM (hbox); have GW184 := aaM (gQ hg hP_.2); have GE184 := aaM (gQ hg hP_.2); clear hP_ hb hbox hg; obtain ⟨hcz8_0, hcz8_1, hcz8_2, hfz8_0, hfz8_1, hfz8_2⟩ := bE3 BK184.out))
  all_goals (go_ret; exact ⟨by first | rfl | (simp [errW_none, errW_some] <;> rfl) | (simp [*, errW_none, errW_some] <;> rfl) | (simp_all; done), by repeat (first | (with_reducible first | exact HB.out | apply lA | apply lN | apply lD | refine lS ?_ GE184.out) | exact HB.out)⟩)

/-! ### spread_Alone: function 94 -/
def spread_Alone.f (k : Nat) (a0_0 : Int) (a0_1 : Int) (a0_2 : Int) : Option (Int × Int × Int) := (spread_there.f k a0_0 a0_1 a0_2).bind fun t188 => (if t188 = true then ((prod_Square.f a0_1).bind fun bt189 => (some (bt189.1, bt189.2, IntKind.u64.wrap (a0_0)))) else (some (0, 0, 0)))
theorem spread_Alone.mono : ∀ a0 a1 a2 k, LeO (spread_Alone.f k a0 a1 a2) (spread_Alone.f (k + 1) a0 a1 a2) := by
 intro a0 a1 a2 k
 unfold spread_Alone.f
 repeat' first
   | (with_reducible exact spread_there.mono _ _ _ _)
   | (with_reducible exact LeO.refl _)
   | (with_reducible exact LeO.none _)
   | (with_reducible refine LeO.ite ?_ ?_)
   | (with_reducible refine LeO.bind ?_ (fun _ => ?_))
   | exact spread_there.mono _ _ _ _
   | exact LeO.none _
   | refine LeO.ite ?_ ?_
   | refine LeO.bind ?_ (fun _ => ?_)
def spread_Alone.T3 : Bool × List (List Nat × List Nat) := (true, [([], []), ([0], [0]), ([1], [1]), ([], []), ([3], [3]), ([4], [4]), ([2, 5], [2, 5]), ([6, 2, 0, 1, 2, 3, 4, 5, 6], [6])])
def spread_Alone.B3 : List Nat := [0, 1, 3, 0, 8, 24, 63, 127]
theorem spread_Alone.tab3 : rtab .any (opsOf Try.f94 3) = spread_Alone.T3 := by kernel_rfl
theorem spread_Alone.bits3 : waitsOk spread_Alone.T3.2 spread_Alone.B3 = true := by kernel_rfl
set_option maxHeartbeats 8000000 in
set_option maxRecDepth 100000 in
theorem spread_Alone.calls (k : Nat) (a0_0 : Int) (a0_1 : Int) (a0_2 : Int) (r1 : Int) (r2 : Int) (r3 : Int) (w : World) (h : spread_Alone.f k a0_0 a0_1 a0_2 = some (r1, r2, r3)) :
  Calls Try.prog 94 #[.agg #[.int .i64 a0_0, .int .i64 a0_1, .int .i64 a0_2]] w fun e w' => e = .returned (.agg #[.int .u64 r1, .int .u64 r2, .int .u64 r3]) ∧ Below w.heap.size w w' := by
 have hu54 := Try.underlying54
 have hu32 := Try.underlying32
 have HB := aaM (Below.refl w.heap.size w)
 have H : ((spread_there.f k a0_0 a0_1 a0_2).bind fun t188 => (if t188 = true then ((prod_Square.f a0_1).bind fun bt189 => (some (bt189.1, bt189.2, IntKind.u64.wrap (a0_0)))) else (some (0, 0, 0)))) = some (r1, r2, r3) := h
 clear h
 replace H := ooB.mp H
 obtain ⟨t188, A20, H⟩ := H
 replace H : (if t188 = true then ((prod_Square.f a0_1).bind fun bt189 => (some (bt189.1, bt189.2, IntKind.u64.wrap (a0_0)))) else (some (0, 0, 0))) = some (r1, r2, r3) := H
 have A2 := aaM A20
 clear A20
 by_cases c3 : t188 = true
 ·subst c3
  have H1 : ((prod_Square.f a0_1).bind fun bt189 => (some (bt189.1, bt189.2, IntKind.u64.wrap (a0_0)))) = some (r1, r2, r3) := by rw [if_pos rfl] at H; exact H
  clear H
  have H := H1
  clear H1
  replace H := ooB.mp H
  obtain ⟨⟨t189, t190⟩, A40, H⟩ := H
  replace H : (some (t189, t190, IntKind.u64.wrap (a0_0))) = some (r1, r2, r3) := H
  have A4 := aaM A40
  clear A40
  simp only [Option.some.injEq, Prod.mk.injEq] at H
  obtain ⟨rfl, rfl, rfl⟩ := H
  go_enter Try.func94, Try.ntmps94
  try go_wp2_with (first | ((with_reducible refine gate_dst (N := 1) rfl ?_); refine box_event ?hg (N := 1) ?hd (cs := #[.int .i64 a0_0, .int .i64 a0_1, .int .i64 a0_2]) (t := 54) ?hr ?_; (case hd => rfl); (case hg => rfl); (case hr => first | (go_simp; done) | (go_simp; rfl)); intro gb186 hg w5 hbox hb; have hP_ := lQ (by repeat (first | (with_reducible first | exact HB.out | apply lA | apply lN | apply lD) | exact HB.out)) hb; replace HB := aaM hP_.1; have BK186 := aaM (hbox); have GW186 := aaM (gQ hg hP_.2); have GE186 := aaM (gQ hg hP_.2); clear hP_ hb hbox hg) | ((with_reducible refine gate_dst (N := 2) rfl ?_); refine box_event ?hg (N := 2) ?hd (cs := #[.int .u64 0, .int .u64 0, .int .u64 0]) (t := 32) ?hr ?_; (case hd => rfl); (case hg => rfl); (case hr => first | (go_simp; done) | (go_simp; rfl)); intro gb187 hg w6 hbox hb; have hP_ := lQ (by repeat (first | (with_reducible first | exact HB.out | apply lA | apply lN | apply lD | refine lS ?_ GE186.out) | exact HB.out)) hb; replace HB := aaM hP_.1; have BK187 := aaM (hbox); have GW187 := aaM (gQ hg hP_.2); have GE187 := aaM (gQ hg hP_.2); have NB186_187 := aaM (nL hg BK186.out); have NB187_186 := aaM (nL hg BK186.out).symm; replace BK186 := aaM (bX hb BK186.out); clear hP_ hb hbox hg; have hnb7 := NB186_187.out; have hnc7 := NB187_186.out; obtain ⟨hcz8_0, hcz8_1, hcz8_2, hfz8_0, hfz8_1, hfz8_2⟩ := bE3 BK186.out) | ((with_reducible refine gate_callee (f := 97) rfl ?_); refine goesL_ (some 4) rfl rfl Try.func97 (by kernel_rfl) rfl #[.agg #[.int .i64 a0_0, .int .i64 a0_1, .int .i64 a0_2]] rfl (by (try simp only [mmT, mmC, mmN]); first | done | rfl | (simp only [ddD, ddT]; rfl)) ?_; (with_reducible refine (spread_there.calls k a0_0 a0_1 a0_2 true _ A2.out).mono ?_); rintro e w9 ⟨rfl, hb⟩; refine ⟨_, rfl, ?_⟩; replace BK186 := aaM (bX hb BK186.out); replace BK187 := aaM (bX hb BK187.out); replace HB := aaM (lP (by repeat (first | (with_reducible first | exact HB.out | apply lA | apply lN | apply lD | refine lS ?_ GE186.out | refine lS ?_ GE187.out) | exact HB.out)) hb); (try clear hb); (try clear hb2); (try clear hk); (try clear hi)))
  replace BK186 := aaM (bD BK186.out)
  replace BK187 := aaM (bD BK187.out)
  replace HB := aaM (lD HB.out)
  refine start_ (n := 8) (S := fun w' => w'.cell? ⟨gb186, 0, none⟩ = some (.int .i64 a0_0) ∧ w'.cell? ⟨gb186, 1, none⟩ = some (.int .i64 a0_1) ∧ w'.cell? ⟨gb186, 2, none⟩ = some (.int .i64 a0_2)) (ds := []) #[false, false, false, false, false, false, false, false] (by kernel_rfl) rfl rfl ⟨(bC BK186.out 0).trans rfl, (bC BK186.out 1).trans rfl, (bC BK186.out 2).trans rfl⟩ (fun hHeld => ?_); refine with_tabW spread_Alone.tab3 spread_Alone.bits3 (fun HT_ HW_ => ?_)
  generalize w9.drew = w10 at BK186 BK187 HB hHeld ⊢
  refine pure_ (i := 0) (N := some 7) (v := ?_) (a' := ?_) #[true, false, false, false, false, false, false, false] rfl rfl (any_of HT_.out (by kernel_rfl)) (fun _ _ _ h => h) (Or.inl ⟨by rfl, ?_⟩) ?_ ?_
  rotate_left
  ·intro w'
   go_simp
   with_reducible rfl
  rotate_left
  ·simp only [Act.put, ssB, ssZ, ssS, i64_w, i32_w]
   rfl
  refine pure_ (i := 3) (N := some 10) (v := ?_) (a' := ?_) #[true, false, false, true, false, false, false, false] rfl rfl (any_of HT_.out (by kernel_rfl)) (fun _ _ _ h => h) (Or.inl ⟨by rfl, ?_⟩) ?_ ?_
  rotate_left
  ·intro w'
   go_simp
   with_reducible rfl
  rotate_left
  ·simp only [Act.put, ssB, ssZ, ssS, i64_w, i32_w]
   rfl
  refine take_ (i := 1) (N := some 8) (v := ?_) (a' := ?_) #[true, true, false, true, false, false, false, false] rfl rfl (take_ofW HT_.out HW_.out (by kernel_rfl)) (fun _ _ _ h => h) (Or.inl ⟨by rfl, ?_⟩) hHeld ?_ ?_
  rotate_left
  ·rintro w' ⟨s0, s1, s2⟩
   go_simp
   with_reducible rfl
  rotate_left
  ·simp only [Act.put, ssB, ssZ, ssS, i64_w, i32_w]
   rfl
  refine take_ (i := 4) (N := some 11) (v := ?_) (a' := ?_) #[true, true, false, true, true, false, false, false] rfl rfl (take_ofW HT_.out HW_.out (by kernel_rfl)) (fun _ _ _ h => h) (Or.inl ⟨by rfl, ?_⟩) hHeld ?_ ?_
  rotate_left
  ·rintro w' ⟨s0, s1, s2⟩
   go_simp
   with_reducible rfl
  rotate_left
  ·simp only [Act.put, ssB, ssZ, ssS, i64_w, i32_w]
   rfl
  refine pure_ (i := 5) (N := some 12) (v := ?_) (a' := ?_) #[true, true, false, true, true, true, false, false] rfl rfl (any_of HT_.out (by kernel_rfl)) (fun _ _ _ h => h) (Or.inl ⟨by rfl, ?_⟩) ?_ ?_
  rotate_left
  ·intro w'
   go_simp
   with_reducible rfl
  rotate_left
  ·simp only [Act.put, ssB, ssZ, ssS, i64_w, i32_w]
   rfl
  refine one_ (i := 2) (N := some 9) #[true, true, true, true, true, true, false, false] rfl rfl (one_of HT_.out (by kernel_rfl)) (by decide) (fun K hK => ?_)
  refine goes_ Try.func98 (by kernel_rfl) rfl #[.int .i64 a0_1] (by rfl) rfl rfl (by (try simp only [mmT, mmC, mmN]); first | done | rfl | (simp only [ddD, ddT]; rfl)) ?_
  with_reducible refine (prod_Square.calls a0_1 t189 t190 _ A4.out).mono ?_
  rintro e w11 ⟨rfl, hb⟩
  refine ⟨_, rfl, ?_⟩
  replace BK186 := aaM (bX hb BK186.out)
  replace BK187 := aaM (bX hb BK187.out)
  replace HB := aaM (lP (by repeat (first | (with_reducible first | exact HB.out | apply lA | apply lN | apply lD | refine lS ?_ GE186.out | refine lS ?_ GE187.out) | exact HB.out)) hb)
  (try clear hb)
  (try clear hb2)
  (try clear hk)
  (try clear hi)
  refine hK.out _ _ ⟨(bC BK186.out 0).trans rfl, (bC BK186.out 1).trans rfl, (bC BK186.out 2).trans rfl⟩ (fun hHeld => ?_)
  clear hK K
  refine norm_ (a' := ?_) ?_ ?_
  rotate_left
  ·show Act.put _ (some 9) _ = _
   simp only [Act.put, ssB, ssZ, ssS, i64_w, i32_w]
   rfl
  refine pure_ (i := 6) (N := some 13) (v := ?_) (a' := ?_) #[true, true, true, true, true, true, true, false] rfl rfl (any_of HT_.out (by kernel_rfl)) (fun _ _ _ h => h) (Or.inl ⟨by rfl, ?_⟩) ?_ ?_
  rotate_left
  ·intro w'
   go_simp
   with_reducible rfl
  rotate_left
  ·simp only [Act.put, ssB, ssZ, ssS, i64_w, i32_w]
   rfl
  refine one_ (i := 7) (N := none) #[true, true, true, true, true, true, true, true] rfl rfl (one_of HT_.out (by kernel_rfl)) (by decide) (fun K hK => ?_)
  obtain ⟨hs12, -, -, hfs12, -, -⟩ := bE3 BK187.out
  have hns12_0 := NB186_187.out
  have hms12_0 := NB187_186.out
  obtain ⟨-, hs13, -, -, hfs13, -⟩ := bE3 BK187.out
  have hns13_0 := NB186_187.out
  have hms13_0 := NB187_186.out
  obtain ⟨-, -, hs14, -, -, hfs14⟩ := bE3 BK187.out
  have hns14_0 := NB186_187.out
  have hms14_0 := NB187_186.out
  refine skip_ (w1 := ?_) (by rfl) rfl ?_ ?_
  rotate_left
  ·go_simp
   rfl
  refine hK.out _ _ ⟨((cell_far (p := ⟨gb187, _, none⟩) NB186_187.out _).trans (((cell_far (p := ⟨gb187, _, none⟩) NB186_187.out _).trans (((cell_far (p := ⟨gb187, _, none⟩) NB186_187.out _).trans (hHeld.1)))))), ((cell_far (p := ⟨gb187, _, none⟩) NB186_187.out _).trans (((cell_far (p := ⟨gb187, _, none⟩) NB186_187.out _).trans (((cell_far (p := ⟨gb187, _, none⟩) NB186_187.out _).trans (hHeld.2.1)))))), ((cell_far (p := ⟨gb187, _, none⟩) NB186_187.out _).trans (((cell_far (p := ⟨gb187, _, none⟩) NB186_187.out _).trans (((cell_far (p := ⟨gb187, _, none⟩) NB186_187.out _).trans (hHeld.2.2))))))⟩ (fun hHeld => ?_)
  clear hK K
  refine done_ (done_of HT_.out (by kernel_rfl)) ?_
  try go_wp2
  refine bodyPost_ret (results_cell_row rfl _ _ gb187 32 #[.int .u64 t189, .int .u64 t190, .int .u64 (IntKind.u64.wrap (a0_0))] (0, 0) _ rfl (by (with_reducible repeat (first | refine bN ?_ _ | refine bD ?_ | refine bA ?_ _)); refine blk_put (cs := #[.int .u64 t189, .int .u64 t190, .int .u64 0]) ?_ 2 _ rfl; (with_reducible repeat (first | refine bN ?_ _ | refine bD ?_ | refine bA ?_ _)); refine blk_put (cs := #[.int .u64 t189, .int .u64 0, .int .u64 0]) ?_ 1 _ rfl; (with_reducible repeat (first | refine bN ?_ _ | refine bD ?_ | refine bA ?_ _)); refine blk_put (cs := #[.int .u64 0, .int .u64 0, .int .u64 0]) ?_ 0 _ rfl; (with_reducible repeat (first | refine bN ?_ _ | refine bD ?_ | refine bA ?_ _)); exact BK187.out) Try.underlying32 rfl (by kernel_rfl)) rfl ?_
  exact ⟨by first | rfl | (simp [errW_none, errW_some] <;> rfl) | (simp [*, errW_none, errW_some] <;> rfl), by repeat (first | (with_reducible first | exact HB.out | apply lA | apply lN | apply lD | refine lS ?_ GE186.out | refine lS ?_ GE187.out) | exact HB.out)⟩
 ·replace c3 := Bool.eq_false_iff.mpr c3
  subst c3
  have H1 : (some (0, 0, 0)) = some (r1, r2, r3) := by rw [if_neg (show ¬ (false = true) by decide)] at H; exact H
  clear H
  have H := H1
  clear H1
  simp only [Option.some.injEq, Prod.mk.injEq] at H
  obtain ⟨rfl, rfl, rfl⟩ := H
  go_enter Try.func94, Try.ntmps94
  go_wp2_with (first | ((with_reducible refine gate_dst (N := 1) rfl ?_); refine box_event ?hg (N := 1) ?hd (cs := #[.int .i64 a0_0, .int .i64 a0_1, .int .i64 a0_2]) (t := 54) ?hr ?_; (case hd => rfl); (case hg => rfl); (case hr => first | (go_simp; done) | (go_simp; rfl)); intro gb186 hg w15 hbox hb; have hP_ := lQ (by repeat (first | (with_reducible first | exact HB.out | apply lA | apply lN | apply lD) | exact HB.out)) hb; replace HB := aaM hP_.1; have BK186 := aaM (hbox); have GW186 := aaM (gQ hg hP_.2); have GE186 := aaM (gQ hg hP_.2); clear hP_ hb hbox hg) | ((with_reducible refine gate_dst (N := 2) rfl ?_); refine box_event ?hg (N := 2) ?hd (cs := #[.int .u64 0, .int .u64 0, .int .u64 0]) (t := 32) ?hr ?_; (case hd => rfl); (case hg => rfl); (case hr => first | (go_simp; done) | (go_simp; rfl)); intro gb187 hg w16 hbox hb; have hP_ := lQ (by repeat (first | (with_reducible first | exact HB.out | apply lA | apply lN | apply lD | refine lS ?_ GE186.out) | exact HB.out)) hb; replace HB := aaM hP_.1; have BK187 := aaM (hbox); have GW187 := aaM (gQ hg hP_.2); have GE187 := aaM (gQ hg hP_.2); have NB186_187 := aaM (nL hg BK186.out); have NB187_186 := aaM (nL hg BK186.out).symm; replace BK186 := aaM (bX hb BK186.out); clear hP_ hb hbox hg; have hnb17 := NB186_187.out; have hnc17 := NB187_186.out; obtain ⟨hcz18_0, hcz18_1, hcz18_2, hfz18_0, hfz18_1, hfz18_2⟩ := bE3 BK186.out) | ((with_reducible refine gate_callee (f := 97) rfl ?_); refine goesL_ (some 4) rfl rfl Try.func97 (by kernel_rfl) rfl #[.agg #[.int .i64 a0_0, .int .i64 a0_1, .int .i64 a0_2]] rfl (by (try simp only [mmT, mmC, mmN]); first | done | rfl | (simp only [ddD, ddT]; rfl)) ?_; (with_reducible refine (spread_there.calls k a0_0 a0_1 a0_2 false _ A2.out).mono ?_); rintro e w19 ⟨rfl, hb⟩; refine ⟨_, rfl, ?_⟩; replace BK186 := aaM (bX hb BK186.out); replace BK187 := aaM (bX hb BK187.out); replace HB := aaM (lP (by repeat (first | (with_reducible first | exact HB.out | apply lA | apply lN | apply lD | refine lS ?_ GE186.out | refine lS ?_ GE187.out) | exact HB.out)) hb); (try clear hb); (try clear hb2); (try clear hk); (try clear hi); obtain ⟨hcz20_0, hcz20_1, hcz20_2, hfz20_0, hfz20_1, hfz20_2⟩ := bE3 BK187.out))
  refine bodyPost_ret (results_cell_row rfl _ _ gb187 32 #[.int .u64 0, .int .u64 0, .int .u64 0] (0, 0) _ rfl (by (with_reducible repeat (first | refine bN ?_ _ | refine bD ?_ | refine bA ?_ _)); refine blk_put (cs := #[.int .u64 0, .int .u64 0, .int .u64 0]) ?_ 2 _ rfl; (with_reducible repeat (first | refine bN ?_ _ | refine bD ?_ | refine bA ?_ _)); refine blk_put (cs := #[.int .u64 0, .int .u64 0, .int .u64 0]) ?_ 1 _ rfl; (with_reducible repeat (first | refine bN ?_ _ | refine bD ?_ | refine bA ?_ _)); refine blk_put (cs := #[.int .u64 0, .int .u64 0, .int .u64 0]) ?_ 0 _ rfl; (with_reducible repeat (first | refine bN ?_ _ | refine bD ?_ | refine bA ?_ _)); exact BK187.out) Try.underlying32 rfl (by kernel_rfl)) rfl ?_
  exact ⟨by first | rfl | (simp [errW_none, errW_some] <;> rfl) | (simp [*, errW_none, errW_some] <;> rfl), by repeat (first | (with_reducible first | exact HB.out | apply lA | apply lN | apply lD | refine lS ?_ GE186.out | refine lS ?_ GE187.out) | exact HB.out)⟩

/-! ### split_means_alone: function 91 -/
def split_means_alone.f (k : Nat) (a0_0 : Int) (a0_1 : Int) (a0_2 : Int) : Option (Int × Int × Int) := (spread_Alone.f k a0_0 a0_1 a0_2).bind fun bt193 => (some (bt193.1, bt193.2.1, bt193.2.2))
theorem split_means_alone.mono : ∀ a0 a1 a2 k, LeO (split_means_alone.f k a0 a1 a2) (split_means_alone.f (k + 1) a0 a1 a2) := by
 intro a0 a1 a2 k
 unfold split_means_alone.f
 repeat' first
   | (with_reducible exact spread_Alone.mono _ _ _ _)
   | (with_reducible exact LeO.refl _)
   | (with_reducible exact LeO.none _)
   | (with_reducible refine LeO.ite ?_ ?_)
   | (with_reducible refine LeO.bind ?_ (fun _ => ?_))
   | exact spread_Alone.mono _ _ _ _
   | exact LeO.none _
   | refine LeO.ite ?_ ?_
   | refine LeO.bind ?_ (fun _ => ?_)
set_option maxHeartbeats 8000000 in
set_option maxRecDepth 100000 in
theorem split_means_alone.calls (k : Nat) (a0_0 : Int) (a0_1 : Int) (a0_2 : Int) (r1 : Int) (r2 : Int) (r3 : Int) (w : World) (h : split_means_alone.f k a0_0 a0_1 a0_2 = some (r1, r2, r3)) :
  Calls Try.prog 91 #[.agg #[.int .i64 a0_0, .int .i64 a0_1, .int .i64 a0_2]] w fun e w' => e = .returned (.agg #[.int .u64 r1, .int .u64 r2, .int .u64 r3]) ∧ Below w.heap.size w w' := by
 have hu83 := Try.underlying83
 have hu32 := Try.underlying32
 have hu54 := Try.underlying54
 have HB := aaM (Below.refl w.heap.size w)
 have H : ((spread_Alone.f k a0_0 a0_1 a0_2).bind fun bt193 => (some (bt193.1, bt193.2.1, bt193.2.2))) = some (r1, r2, r3) := h
 clear h
 replace H := ooB.mp H
 obtain ⟨⟨t193, t194, t195⟩, A20, H⟩ := H
 replace H : (some (t193, t194, t195)) = some (r1, r2, r3) := H
 have A2 := aaM A20
 clear A20
 simp only [Option.some.injEq, Prod.mk.injEq] at H
 obtain ⟨rfl, rfl, rfl⟩ := H
 go_enter Try.func91, Try.ntmps91
 go_wp2_with (first | ((with_reducible refine gate_dst (N := 1) rfl ?_); refine box_event ?hg (N := 1) ?hd (cs := #[.int .i64 a0_0, .int .i64 a0_1, .int .i64 a0_2]) (t := 83) ?hr ?_; (case hd => rfl); (case hg => rfl); (case hr => first | (go_simp; done) | (go_simp; rfl)); intro gb191 hg w3 hbox hb; have hP_ := lQ (by repeat (first | (with_reducible first | exact HB.out | apply lA | apply lN | apply lD) | exact HB.out)) hb; replace HB := aaM hP_.1; have BK191 := aaM (hbox); have GW191 := aaM (gQ hg hP_.2); have GE191 := aaM (gQ hg hP_.2); clear hP_ hb hbox hg) | ((with_reducible refine gate_dst (N := 2) rfl ?_); refine box_event ?hg (N := 2) ?hd (cs := #[.int .u64 0, .int .u64 0, .int .u64 0]) (t := 32) ?hr ?_; (case hd => rfl); (case hg => rfl); (case hr => first | (go_simp; done) | (go_simp; rfl)); intro gb192 hg w4 hbox hb; have hP_ := lQ (by repeat (first | (with_reducible first | exact HB.out | apply lA | apply lN | apply lD | refine lS ?_ GE191.out) | exact HB.out)) hb; replace HB := aaM hP_.1; have BK192 := aaM (hbox); have GW192 := aaM (gQ hg hP_.2); have GE192 := aaM (gQ hg hP_.2); have NB191_192 := aaM (nL hg BK191.out); have NB192_191 := aaM (nL hg BK191.out).symm; replace BK191 := aaM (bX hb BK191.out); clear hP_ hb hbox hg; have hnb5 := NB191_192.out; have hnc5 := NB192_191.out; obtain ⟨hcz6_0, hcz6_1, hcz6_2, hfz6_0, hfz6_1, hfz6_2⟩ := bE3 BK191.out) | ((with_reducible refine gate_callee (f := 94) rfl ?_); refine goesL_ (some 5) rfl rfl Try.func94 (by kernel_rfl) rfl #[.agg #[.int .i64 a0_0, .int .i64 a0_1, .int .i64 a0_2]] rfl (by (try simp only [mmT, mmC, mmN]); first | done | rfl | (simp only [ddD, ddT]; rfl)) ?_; (with_reducible refine (spread_Alone.calls k a0_0 a0_1 a0_2 t193 t194 t195 _ A2.out).mono ?_); rintro e w7 ⟨rfl, hb⟩; refine ⟨_, rfl, ?_⟩; replace BK191 := aaM (bX hb BK191.out); replace BK192 := aaM (bX hb BK192.out); replace HB := aaM (lP (by repeat (first | (with_reducible first | exact HB.out | apply lA | apply lN | apply lD | refine lS ?_ GE191.out | refine lS ?_ GE192.out) | exact HB.out)) hb); (try clear hb); (try clear hb2); (try clear hk); (try clear hi); obtain ⟨hcz8_0, hcz8_1, hcz8_2, hfz8_0, hfz8_1, hfz8_2⟩ := bE3 BK192.out))
 refine bodyPost_ret (results_cell_row rfl _ _ gb192 32 #[.int .u64 t193, .int .u64 t194, .int .u64 t195] (0, 0) _ rfl (by (with_reducible repeat (first | refine bN ?_ _ | refine bD ?_ | refine bA ?_ _)); refine blk_put (cs := #[.int .u64 t193, .int .u64 t194, .int .u64 0]) ?_ 2 _ rfl; (with_reducible repeat (first | refine bN ?_ _ | refine bD ?_ | refine bA ?_ _)); refine blk_put (cs := #[.int .u64 t193, .int .u64 0, .int .u64 0]) ?_ 1 _ rfl; (with_reducible repeat (first | refine bN ?_ _ | refine bD ?_ | refine bA ?_ _)); refine blk_put (cs := #[.int .u64 0, .int .u64 0, .int .u64 0]) ?_ 0 _ rfl; (with_reducible repeat (first | refine bN ?_ _ | refine bD ?_ | refine bA ?_ _)); exact BK192.out) Try.underlying32 rfl (by kernel_rfl)) rfl ?_
 exact ⟨by first | rfl | (simp [errW_none, errW_some] <;> rfl) | (simp [*, errW_none, errW_some] <;> rfl), by repeat (first | (with_reducible first | exact HB.out | apply lA | apply lN | apply lD | refine lS ?_ GE191.out | refine lS ?_ GE192.out) | exact HB.out)⟩

/-! ### prod_Times: function 38 -/
def prod_Times.f (a0_0 : Int) (a0_1 : Int) (a1 : Int) : Option (Int × Int × Int) := (bits_Mul64.f a0_1 a1).bind fun bt198 => ((bits_Mul64.f a0_0 a1).bind fun bt200 => ((bits_Add64.f bt198.1 bt200.2 0).bind fun bt202 => (some (IntKind.u64.wrap (bt200.1 + bt202.2), bt202.1, bt198.2))))
set_option maxHeartbeats 8000000 in
set_option maxRecDepth 100000 in
theorem prod_Times.calls (a0_0 : Int) (a0_1 : Int) (a1 : Int) (r1 : Int) (r2 : Int) (r3 : Int) (w : World) (h : prod_Times.f a0_0 a0_1 a1 = some (r1, r2, r3)) :
  Calls Try.prog 38 #[.agg #[.int .u64 a0_0, .int .u64 a0_1], .int .u64 a1] w fun e w' => e = .returned (.agg #[.int .u64 r1, .int .u64 r2, .int .u64 r3]) ∧ Below w.heap.size w w' := by
 have hu30 := Try.underlying30
 have hu87 := Try.underlying87
 have HB := aaM (Below.refl w.heap.size w)
 have H : ((bits_Mul64.f a0_1 a1).bind fun bt198 => ((bits_Mul64.f a0_0 a1).bind fun bt200 => ((bits_Add64.f bt198.1 bt200.2 0).bind fun bt202 => (some (IntKind.u64.wrap (bt200.1 + bt202.2), bt202.1, bt198.2))))) = some (r1, r2, r3) := h
 clear h
 replace H := ooB.mp H
 obtain ⟨⟨t198, t199⟩, A30, H⟩ := H
 replace H : ((bits_Mul64.f a0_0 a1).bind fun bt200 => ((bits_Add64.f t198 bt200.2 0).bind fun bt202 => (some (IntKind.u64.wrap (bt200.1 + bt202.2), bt202.1, t199)))) = some (r1, r2, r3) := H
 have A3 := aaM A30
 clear A30
 replace H := ooB.mp H
 obtain ⟨⟨t200, t201⟩, A40, H⟩ := H
 replace H : ((bits_Add64.f t198 t201 0).bind fun bt202 => (some (IntKind.u64.wrap (t200 + bt202.2), bt202.1, t199))) = some (r1, r2, r3) := H
 have A4 := aaM A40
 clear A40
 replace H := ooB.mp H
 obtain ⟨⟨t202, t203⟩, A50, H⟩ := H
 replace H : (some (IntKind.u64.wrap (t200 + t203), t202, t199)) = some (r1, r2, r3) := H
 have A5 := aaM A50
 clear A50
 simp only [Option.some.injEq, Prod.mk.injEq] at H
 obtain ⟨rfl, rfl, rfl⟩ := H
 go_enter Try.func38, Try.ntmps38
 go_wp2_with (first | ((with_reducible refine gate_dst (N := 2) rfl ?_); refine box_event ?hg (N := 2) ?hd (cs := #[.int .u64 a0_0, .int .u64 a0_1]) (t := 30) ?hr ?_; (case hd => rfl); (case hg => rfl); (case hr => first | (go_simp; done) | (go_simp; rfl)); intro gb196 hg w6 hbox hb; have hP_ := lQ (by repeat (first | (with_reducible first | exact HB.out | apply lA | apply lN | apply lD) | exact HB.out)) hb; replace HB := aaM hP_.1; have BK196 := aaM (hbox); have GW196 := aaM (gQ hg hP_.2); have GE196 := aaM (gQ hg hP_.2); clear hP_ hb hbox hg) | ((with_reducible refine gate_dst (N := 4) rfl ?_); refine box_event ?hg (N := 4) ?hd (cs := #[.int .u64 0, .int .u64 0, .int .u64 0]) (t := 87) ?hr ?_; (case hd => rfl); (case hg => rfl); (case hr => first | (go_simp; done) | (go_simp; rfl)); intro gb197 hg w7 hbox hb; have hP_ := lQ (by repeat (first | (with_reducible first | exact HB.out | apply lA | apply lN | apply lD | refine lS ?_ GE196.out) | exact HB.out)) hb; replace HB := aaM hP_.1; have BK197 := aaM (hbox); have GW197 := aaM (gQ hg hP_.2); have GE197 := aaM (gQ hg hP_.2); have NB196_197 := aaM (nL hg BK196.out); have NB197_196 := aaM (nL hg BK196.out).symm; replace BK196 := aaM (bX hb BK196.out); clear hP_ hb hbox hg; have hnb8 := NB196_197.out; have hnc8 := NB197_196.out; obtain ⟨hcz9_0, hcz9_1, hfz9_0, hfz9_1⟩ := bE2 BK196.out) | ((with_reducible refine gate_callee (f := 53) rfl ?_); refine goesL_ (some 14) rfl rfl Try.func53 (by kernel_rfl) rfl #[.int .u64 a0_1, .int .u64 a1] rfl (by (try simp only [mmT, mmC, mmN]); first | done | rfl | (simp only [ddD, ddT]; rfl)) ?_; (with_reducible refine (bits_Mul64.calls a0_1 a1 t198 t199 _ A3.out).mono ?_); rintro e w' ⟨rfl, ⟨nd, rfl⟩⟩; refine ⟨_, rfl, ?_⟩; (try (rw [drewN_self w7]; generalize hq_ : World.drewN w7 _ = w7; have n0_ : Aside0 (w7.heap[gb196]? = some (.cells #[.int .u64 a0_0, .int .u64 a0_1] 30 (0, 0))) := ⟨by rw [← hq_]; exact (by (with_reducible repeat (first | refine bN ?_ _ | refine bD ?_ | refine bA ?_ _)); exact BK196.out)⟩; have n1_ : Aside0 (w7.heap[gb197]? = some (.cells #[.int .u64 0, .int .u64 0, .int .u64 0] 87 (0, 0))) := ⟨by rw [← hq_]; exact (by (with_reducible repeat (first | refine bN ?_ _ | refine bD ?_ | refine bA ?_ _)); exact BK197.out)⟩; have n2_ : Aside0 (Below w.heap.size w w7) := ⟨by rw [← hq_]; exact (by repeat (first | (with_reducible first | exact HB.out | apply lA | apply lN | apply lD | refine lS ?_ GE196.out | refine lS ?_ GE197.out) | exact HB.out))⟩; clear BK196 BK197 HB hq_; have BK196 := n0_; have BK197 := n1_; have HB := n2_; clear n0_ n1_ n2_; obtain ⟨hcy196_0, hcy196_1, hfy196_0, hfy196_1⟩ := bE2 BK196.out; obtain ⟨hcy197_0, hcy197_1, hcy197_2, hfy197_0, hfy197_1, hfy197_2⟩ := bE3 BK197.out))) | ((with_reducible refine gate_callee (f := 53) rfl ?_); refine goesL_ (some 21) rfl rfl Try.func53 (by kernel_rfl) rfl #[.int .u64 a0_0, .int .u64 a1] rfl (by (try simp only [mmT, mmC, mmN]); first | done | rfl | (simp only [ddD, ddT]; rfl)) ?_; (with_reducible refine (bits_Mul64.calls a0_0 a1 t200 t201 _ A4.out).mono ?_); rintro e w' ⟨rfl, ⟨nd, rfl⟩⟩; refine ⟨_, rfl, ?_⟩; (try (rw [drewN_self w7]; generalize hq_ : World.drewN w7 _ = w7; have n0_ : Aside0 (w7.heap[gb196]? = some (.cells #[.int .u64 a0_0, .int .u64 a0_1] 30 (0, 0))) := ⟨by rw [← hq_]; exact (by (with_reducible repeat (first | refine bN ?_ _ | refine bD ?_ | refine bA ?_ _)); exact BK196.out)⟩; have n1_ : Aside0 (w7.heap[gb197]? = some (.cells #[.int .u64 0, .int .u64 0, .int .u64 0] 87 (0, 0))) := ⟨by rw [← hq_]; exact (by (with_reducible repeat (first | refine bN ?_ _ | refine bD ?_ | refine bA ?_ _)); exact BK197.out)⟩; have n2_ : Aside0 (Below w.heap.size w w7) := ⟨by rw [← hq_]; exact (by repeat (first | (with_reducible first | exact HB.out | apply lA | apply lN | apply lD | refine lS ?_ GE196.out | refine lS ?_ GE197.out) | exact HB.out))⟩; clear BK196 BK197 HB hq_; have BK196 := n0_; have BK197 := n1_; have HB := n2_; clear n0_ n1_ n2_; obtain ⟨hcy196_0, hcy196_1, hfy196_0, hfy196_1⟩ := bE2 BK196.out; obtain ⟨hcy197_0, hcy197_1, hcy197_2, hfy197_0, hfy197_1, hfy197_2⟩ := bE3 BK197.out))) | ((with_reducible refine gate_callee (f := 54) rfl ?_); refine goesX_ (some 27) rfl rfl #[.int .u64 t198, .int .u64 t201, .int .u64 0] rfl (by (try simp only [mmT, mmC, mmN]); first | done | rfl | (simp only [ddD, ddT]; rfl)) ?_; (with_reducible refine (bits_Add64.calls t198 t201 0 t202 t203 _ A5.out).mono ?_); rintro e w' ⟨rfl, ⟨nd, rfl⟩⟩; refine ⟨_, rfl, ?_⟩; (try (rw [drewN_self w7]; generalize hq_ : World.drewN w7 _ = w7; have n0_ : Aside0 (w7.heap[gb196]? = some (.cells #[.int .u64 a0_0, .int .u64 a0_1] 30 (0, 0))) := ⟨by rw [← hq_]; exact (by (with_reducible repeat (first | refine bN ?_ _ | refine bD ?_ | refine bA ?_ _)); exact BK196.out)⟩; have n1_ : Aside0 (w7.heap[gb197]? = some (.cells #[.int .u64 0, .int .u64 0, .int .u64 0] 87 (0, 0))) := ⟨by rw [← hq_]; exact (by (with_reducible repeat (first | refine bN ?_ _ | refine bD ?_ | refine bA ?_ _)); exact BK197.out)⟩; have n2_ : Aside0 (Below w.heap.size w w7) := ⟨by rw [← hq_]; exact (by repeat (first | (with_reducible first | exact HB.out | apply lA | apply lN | apply lD | refine lS ?_ GE196.out | refine lS ?_ GE197.out) | exact HB.out))⟩; clear BK196 BK197 HB hq_; have BK196 := n0_; have BK197 := n1_; have HB := n2_; clear n0_ n1_ n2_; obtain ⟨hcy196_0, hcy196_1, hfy196_0, hfy196_1⟩ := bE2 BK196.out; obtain ⟨hcy197_0, hcy197_1, hcy197_2, hfy197_0, hfy197_1, hfy197_2⟩ := bE3 BK197.out)); obtain ⟨hcz10_0, hcz10_1, hcz10_2, hfz10_0, hfz10_1, hfz10_2⟩ := bE3 BK197.out))
 refine bodyPost_ret (results_cell_row rfl _ _ gb197 87 #[.int .u64 (IntKind.u64.wrap (t200 + t203)), .int .u64 t202, .int .u64 t199] (0, 0) _ rfl (by (with_reducible repeat (first | refine bN ?_ _ | refine bD ?_ | refine bA ?_ _)); refine blk_put (cs := #[.int .u64 (IntKind.u64.wrap (t200 + t203)), .int .u64 t202, .int .u64 0]) ?_ 2 _ rfl; (with_reducible repeat (first | refine bN ?_ _ | refine bD ?_ | refine bA ?_ _)); refine blk_put (cs := #[.int .u64 (IntKind.u64.wrap (t200 + t203)), .int .u64 0, .int .u64 0]) ?_ 1 _ rfl; (with_reducible repeat (first | refine bN ?_ _ | refine bD ?_ | refine bA ?_ _)); refine blk_put (cs := #[.int .u64 0, .int .u64 0, .int .u64 0]) ?_ 0 _ rfl; (with_reducible repeat (first | refine bN ?_ _ | refine bD ?_ | refine bA ?_ _)); exact BK197.out) Try.underlying87 rfl (by kernel_rfl)) rfl ?_
 exact ⟨by first | rfl | (simp [errW_none, errW_some] <;> rfl) | (simp [*, errW_none, errW_some] <;> rfl), by repeat (first | (with_reducible first | exact HB.out | apply lA | apply lN | apply lD | refine lS ?_ GE196.out | refine lS ?_ GE197.out) | exact HB.out)⟩

end Go.Proofs.Ytancajnbjmcamaa.QSplitLeaf
