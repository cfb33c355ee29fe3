-- Written by a program of this session (wip/tools/mkprint.py over the kit's print); Lean checks it.
import Derived.Test.YtoonddgldmfleaaQSpreadShiftx0
import Derived.Test.YtoonddgldmfleaaQSpreadShiftx1
import Derived.Test.YtoonddgldmfleaaQSpreadShiftx3
namespace Go.Proofs.Ytoonddgldmfleaa.QSpreadShift
open Go.RowKit Go.Proofs.YtoonddgldmfleaaW.PrintWords Go.Proofs.YtoonddgldmfleaaW.PrintLast Go.Proofs.YtoonddgldmfleaaW.PrintMore
attribute [local go_sem] max2_int min2_int max_two min_two max_three min_three max_four min_four   -- for this text's walks alone
set_option linter.unusedVariables false
set_option linter.unusedSimpArgs false

attribute [local go_sem high] eqA26
/-! ### prod_Square: function 46 -/
def prod_Square.f (a0 : Int) : Option (Int × Int) := (prod_size.f a0).bind fun t168 => ((prod_size.f a0).bind fun t169 => ((prod_Mul.f t168 t169).bind fun bt170 => (some (bt170.1, bt170.2))))
set_option maxHeartbeats 8000000 in
set_option maxRecDepth 100000 in
theorem prod_Square.calls (a0 : Int) (r1 : Int) (r2 : Int) (w : World) (h : prod_Square.f a0 = some (r1, r2)) :
  Calls Try.prog 46 #[.int .i64 a0] w fun e w' => e = .returned (.agg #[.int .u64 r1, .int .u64 r2]) ∧ Below w.heap.size w w' := by
 have hu34 := Try.underlying34
 have HB := aaM (Below.refl w.heap.size w)
 have H : ((prod_size.f a0).bind fun t168 => ((prod_size.f a0).bind fun t169 => ((prod_Mul.f t168 t169).bind fun bt170 => (some (bt170.1, bt170.2))))) = some (r1, r2) := h
 clear h
 replace H := ooB.mp H
 obtain ⟨t168, A20, H⟩ := H
 replace H : ((prod_size.f a0).bind fun t169 => ((prod_Mul.f t168 t169).bind fun bt170 => (some (bt170.1, bt170.2)))) = some (r1, r2) := H
 have A2 := aaM A20
 clear A20
 replace H := ooB.mp H
 obtain ⟨t169, A30, H⟩ := H
 replace H : ((prod_Mul.f t168 t169).bind fun bt170 => (some (bt170.1, bt170.2))) = some (r1, r2) := H
 have A3 := aaM A30
 obtain rfl : t168 = t169 := Option.some.inj (A2.out.symm.trans A3.out)
 clear A30
 replace H := ooB.mp H
 obtain ⟨⟨t170, t171⟩, A40, H⟩ := H
 replace H : (some (t170, t171)) = some (r1, r2) := H
 have A4 := aaM A40
 clear A40
 simp only [Option.some.injEq, Prod.mk.injEq] at H
 obtain ⟨rfl, rfl⟩ := H
 go_enter Try.func46, Try.ntmps46
 go_wp2_with (first | ((with_reducible refine gate_dst (N := 2) rfl ?_); refine bxF w HB 2 #[.int .u64 0, .int .u64 0] 34 ?_; intro gb167 hg w5 hb BK167 HB GE167; have GW167 := GE167; clear hb hg) | ((with_reducible refine gate_callee (f := 73) rfl ?_); refine gL (some 4) Try.func73 #[.int .i64 a0] ?_; (with_reducible refine (prod_size.calls a0 t168 _ A2.out).mono ?_); rintro e w' ⟨rfl, ⟨nd, rfl⟩⟩; refine ⟨_, rfl, ?_⟩; (try (rw [drewN_self w5]; generalize hq_ : World.drewN w5 _ = w5; have n0_ : Aside0 (w5.heap[gb167]? = some (.cells #[.int .u64 0, .int .u64 0] 34 (0, 0))) := ⟨by rw [← hq_]; exact (bZ BK167)⟩; have n1_ : Aside0 (Below w.heap.size w w5) := ⟨by rw [← hq_]; exact (lB HB)⟩; clear BK167 HB hq_; have BK167 := n0_; have HB := n1_; clear n0_ n1_; obtain ⟨hcy167_0, hcy167_1, hfy167_0, hfy167_1⟩ := bE2 BK167.out))) | ((with_reducible refine gate_callee (f := 73) rfl ?_); refine gL (some 6) Try.func73 #[.int .i64 a0] ?_; (with_reducible refine (prod_size.calls a0 t168 _ A3.out).mono ?_); rintro e w' ⟨rfl, ⟨nd, rfl⟩⟩; refine ⟨_, rfl, ?_⟩; (try (rw [drewN_self w5]; generalize hq_ : World.drewN w5 _ = w5; have n0_ : Aside0 (w5.heap[gb167]? = some (.cells #[.int .u64 0, .int .u64 0] 34 (0, 0))) := ⟨by rw [← hq_]; exact (bZ BK167)⟩; have n1_ : Aside0 (Below w.heap.size w w5) := ⟨by rw [← hq_]; exact (lB HB)⟩; clear BK167 HB hq_; have BK167 := n0_; have HB := n1_; clear n0_ n1_; obtain ⟨hcy167_0, hcy167_1, hfy167_0, hfy167_1⟩ := bE2 BK167.out))) | ((with_reducible refine gate_callee (f := 72) rfl ?_); refine gL (some 7) Try.func72 #[.int .u64 t168, .int .u64 t168] ?_; (with_reducible refine (prod_Mul.calls t168 t168 t170 t171 _ A4.out).mono ?_); rintro e w6 ⟨rfl, hb⟩; refine ⟨_, rfl, ?_⟩; replace BK167 := bY hb BK167; replace HB := aaM (lP (lB HB) hb); (try clear hb); (try clear hb2); (try clear hk); (try clear hi); obtain ⟨_, _, _, _⟩ := bE2 BK167.out))
 refine bodyPost_ret (results_cell_row rfl _ _ gb167 34 #[.int .u64 t170, .int .u64 t171] (0, 0) _ rfl (bZ BK167) Try.underlying34 rfl (by kernel_rfl)) rfl ?_
 exact ⟨eE, lB HB⟩

/-! ### spread_bound: function 47 -/
def spread_bound.f (a0_0 : Int) (a0_1 : Int) (a0_2 : Int) : Option (Int × Int) := (prod_Mul.f (IntKind.u64.wrap (a0_0)) (IntKind.u64.wrap (a0_2))).bind fun bt174 => (some (bt174.1, bt174.2))
set_option maxHeartbeats 8000000 in
set_option maxRecDepth 100000 in
theorem spread_bound.calls (a0_0 : Int) (a0_1 : Int) (a0_2 : Int) (r1 : Int) (r2 : Int) (w : World) (h : spread_bound.f a0_0 a0_1 a0_2 = some (r1, r2)) :
  Calls Try.prog 47 #[.agg #[.int .i64 a0_0, .int .i64 a0_1, .int .i64 a0_2]] w fun e w' => e = .returned (.agg #[.int .u64 r1, .int .u64 r2]) ∧ Below w.heap.size w w' := by
 have hu26 := Try.underlying26
 have hu34 := Try.underlying34
 have HB := aaM (Below.refl w.heap.size w)
 have H : ((prod_Mul.f (IntKind.u64.wrap (a0_0)) (IntKind.u64.wrap (a0_2))).bind fun bt174 => (some (bt174.1, bt174.2))) = some (r1, r2) := h
 clear h
 replace H := ooB.mp H
 obtain ⟨⟨t174, t175⟩, A20, H⟩ := H
 replace H : (some (t174, t175)) = some (r1, r2) := H
 have A2 := aaM A20
 clear A20
 simp only [Option.some.injEq, Prod.mk.injEq] at H
 obtain ⟨rfl, rfl⟩ := H
 go_enter Try.func47, Try.ntmps47
 go_wp2_with (first | ((with_reducible refine gate_dst (N := 1) rfl ?_); refine bxF w HB 1 #[.int .i64 a0_0, .int .i64 a0_1, .int .i64 a0_2] 26 ?_; intro gb172 hg w3 hb BK172 HB GE172; have GW172 := GE172; clear hb hg) | ((with_reducible refine gate_dst (N := 2) rfl ?_); refine bxF w HB 2 #[.int .u64 0, .int .u64 0] 34 ?_; intro gb173 hg w4 hb BK173 HB GE173; have GW173 := GE173; obtain ⟨NB172_173, NB173_172⟩ := nS hg BK172; replace BK172 := bY hb BK172; clear hb hg; have := NB172_173.out; have := NB173_172.out; obtain ⟨_, _, _, _, _, _⟩ := bE3 BK172.out) | ((with_reducible refine gate_callee (f := 72) rfl ?_); refine gL (some 9) Try.func72 #[.int .u64 (IntKind.u64.wrap (a0_0)), .int .u64 (IntKind.u64.wrap (a0_2))] ?_; (with_reducible refine (prod_Mul.calls (IntKind.u64.wrap (a0_0)) (IntKind.u64.wrap (a0_2)) t174 t175 _ A2.out).mono ?_); rintro e w7 ⟨rfl, hb⟩; refine ⟨_, rfl, ?_⟩; replace BK172 := bY hb BK172; replace BK173 := bY hb BK173; replace HB := aaM (lP (lB HB) hb); (try clear hb); (try clear hb2); (try clear hk); (try clear hi); obtain ⟨_, _, _, _⟩ := bE2 BK173.out))
 refine bodyPost_ret (results_cell_row rfl _ _ gb173 34 #[.int .u64 t174, .int .u64 t175] (0, 0) _ rfl (bZ BK173) Try.underlying34 rfl (by kernel_rfl)) rfl ?_
 exact ⟨eE, lB HB⟩

/-! ### spread_May: function 17 -/
mutual
def spread_May.j0 : Nat → Bool → Int → Int → Int → Option (Bool)
 | 0, _, _, _, _ => none
 | k + 1, x26, x177000, x177001, x177002 => if x26 = true then (some false) else (if x177001 > (wrap64 (1048576 * x177000)) then (spread_May.j1 k true x177000 x177001 x177002) else (spread_May.j1 k (decide (x177001 < (wrap64 ((-1048576) * x177000)))) x177000 x177001 x177002))
def spread_May.j1 : Nat → Bool → Int → Int → Int → Option (Bool)
 | 0, _, _, _, _ => none
 | k + 1, x40, x177000, x177001, x177002 => if x40 = true then (some false) else ((prod_Square.f x177001).bind fun bt180 => ((spread_bound.f x177000 x177001 x177002).bind fun bt182 => ((prod_Cmp.f k bt180.1 bt180.2 bt182.1 bt182.2).bind fun t184 => (some (decide (t184 ≤ 0))))))
end
def spread_May.f (k : Nat) (a0_0 : Int) (a0_1 : Int) (a0_2 : Int) : Option (Bool) := (spread_none.f).bind fun bt177 => (if (a0_0 == bt177.1 && (a0_1 == bt177.2.1 && (a0_2 == bt177.2.2))) = true then (some true) else (if a0_0 < 1 then (spread_May.j0 k true a0_0 a0_1 a0_2) else (if a0_0 > 1048576 then (spread_May.j0 k true a0_0 a0_1 a0_2) else (if a0_2 < 0 then (spread_May.j0 k true a0_0 a0_1 a0_2) else (spread_May.j0 k (decide (a0_2 > (wrap64 (1099511627776 * a0_0)))) a0_0 a0_1 a0_2)))))
theorem spread_May.mono_l : ∀ k, (∀ y0 y1 y2 y3, LeO (spread_May.j0 k y0 y1 y2 y3) (spread_May.j0 (k + 1) y0 y1 y2 y3)) ∧ (∀ y0 y1 y2 y3, LeO (spread_May.j1 k y0 y1 y2 y3) (spread_May.j1 (k + 1) y0 y1 y2 y3))
 | 0 => ⟨fun _ _ _ _ r h => by simp [spread_May.j0] at h, fun _ _ _ _ r h => by simp [spread_May.j1] at h⟩
 | k + 1 => by
  obtain ⟨ih0, ih1⟩ := spread_May.mono_l k
  refine ⟨?_, ?_⟩
  all_goals (intros; first | unfold spread_May.j0 | unfold spread_May.j1)
  all_goals repeat' first
   | (with_reducible exact ih0 _ _ _ _)
   | (with_reducible exact ih1 _ _ _ _)
   | (with_reducible exact prod_Cmp.mono _ _ _ _ _)
   | (with_reducible exact LeO.refl _)
   | (with_reducible exact LeO.none _)
   | (with_reducible refine LeO.ite ?_ ?_)
   | (with_reducible refine LeO.bind ?_ (fun _ => ?_))
   | exact ih0 _ _ _ _
   | exact ih1 _ _ _ _
   | exact prod_Cmp.mono _ _ _ _ _
   | exact LeO.none _
   | refine LeO.ite ?_ ?_
   | refine LeO.bind ?_ (fun _ => ?_)
theorem spread_May.mono : ∀ a0 a1 a2 k, LeO (spread_May.f k a0 a1 a2) (spread_May.f (k + 1) a0 a1 a2) := by
 intro a0 a1 a2 k
 obtain ⟨ih0, ih1⟩ := spread_May.mono_l k
 unfold spread_May.f
 repeat' first
   | (with_reducible exact ih0 _ _ _ _)
   | (with_reducible exact ih1 _ _ _ _)
   | (with_reducible exact prod_Cmp.mono _ _ _ _ _)
   | (with_reducible exact LeO.refl _)
   | (with_reducible exact LeO.none _)
   | (with_reducible refine LeO.ite ?_ ?_)
   | (with_reducible refine LeO.bind ?_ (fun _ => ?_))
   | exact ih0 _ _ _ _
   | exact ih1 _ _ _ _
   | exact prod_Cmp.mono _ _ _ _ _
   | exact LeO.none _
   | refine LeO.ite ?_ ?_
   | refine LeO.bind ?_ (fun _ => ?_)
def spread_May.T7 : Bool × List (List Nat × List Nat) := (true, [([], []), ([0], [0]), ([1], [1]), ([], []), ([3, 2], [3]), ([2, 4, 4], [2, 4]), ([5], [5]), ([6, 5, 0, 1, 2, 3, 4, 5, 6], [6])])
def spread_May.B7 : List Nat := [0, 1, 3, 0, 15, 31, 63, 127]
theorem spread_May.tab7 : rtab .any (opsOf Try.f17 7) = spread_May.T7 := by kernel_rfl
theorem spread_May.bits7 : waitsOk spread_May.T7.2 spread_May.B7 = true := by kernel_rfl
set_option maxHeartbeats 8000000 in
set_option maxRecDepth 100000 in
theorem spread_May.calls (k : Nat) (a0_0 : Int) (a0_1 : Int) (a0_2 : Int) (r : Bool) (w : World) (h : spread_May.f k a0_0 a0_1 a0_2 = some r) :
  Calls Try.prog 17 #[.agg #[.int .i64 a0_0, .int .i64 a0_1, .int .i64 a0_2]] w fun e w' => e = .returned (.bool r) ∧ Below w.heap.size w w' := by
 have hu26 := Try.underlying26
 have HB := aaM (Below.refl w.heap.size w)
 have H : ((spread_none.f).bind fun bt177 => (if (a0_0 == bt177.1 && (a0_1 == bt177.2.1 && (a0_2 == bt177.2.2))) = true then (some true) else (if a0_0 < 1 then (spread_May.j0 k true a0_0 a0_1 a0_2) else (if a0_0 > 1048576 then (spread_May.j0 k true a0_0 a0_1 a0_2) else (if a0_2 < 0 then (spread_May.j0 k true a0_0 a0_1 a0_2) else (spread_May.j0 k (decide (a0_2 > (wrap64 (1099511627776 * a0_0)))) a0_0 a0_1 a0_2)))))) = some r := h
 clear h
 replace H := ooB.mp H
 obtain ⟨⟨t177, t178, t179⟩, A20, H⟩ := H
 replace H : (if (a0_0 == t177 && (a0_1 == t178 && (a0_2 == t179))) = true then (some true) else (if a0_0 < 1 then (spread_May.j0 k true a0_0 a0_1 a0_2) else (if a0_0 > 1048576 then (spread_May.j0 k true a0_0 a0_1 a0_2) else (if a0_2 < 0 then (spread_May.j0 k true a0_0 a0_1 a0_2) else (spread_May.j0 k (decide (a0_2 > (wrap64 (1099511627776 * a0_0)))) a0_0 a0_1 a0_2))))) = some r := H
 have A2 := aaM A20
 clear A20
 by_cases c3 : (a0_0 == t177 && (a0_1 == t178 && (a0_2 == t179))) = true
 ·rw [if_pos c3] at H
  have c3b0 : (a0_0 == t177 && (a0_1 == t178 && (a0_2 == t179))) = true := c3; (try (have c3b1 : decide (a0_0 = t177 && (a0_1 == t178 && (a0_2 == t179))) = true := by simpa using c3)); (try (have c3b2 : (a0_0 == t177 && (a0_1 == t178 && (a0_2 == t179))) = true := by simpa using c3)); clear c3; obtain rfl := Option.some.inj H; go_enter Try.func17, Try.ntmps17; (try go_wp2_with (first | ((with_reducible refine gate_dst (N := 1) rfl ?_); refine bxF w HB 1 #[.int .i64 a0_0, .int .i64 a0_1, .int .i64 a0_2] 26 ?_; intro gb176 hg w4 hb BK176 HB GE176; have GW176 := GE176; clear hb hg))); replace BK176 := aaM (bD BK176.out); replace HB := aaM (lD HB.out); refine start_ (n := 3) (S := fun w' => w'.cell? ⟨gb176, 0, none⟩ = some (.int .i64 a0_0) ∧ w'.cell? ⟨gb176, 1, none⟩ = some (.int .i64 a0_1) ∧ w'.cell? ⟨gb176, 2, none⟩ = some (.int .i64 a0_2)) (ds := []) _ (by kernel_rfl) rfl rfl hD (fun hHeld => ?_); generalize w4.drew = w5 at BK176 HB hHeld ⊢; refine take_ (i := 0) (N := some 3) (v := ?_) (a' := ?_) #[true, false, false] rfl rfl (by kernel_rfl) (fun _ _ _ h => h) (Or.inl ⟨by rfl, ?_⟩) hHeld ?_ ?_; rotate_left
  ·rintro w' ⟨s0, s1, s2⟩
   go_simp; (with_reducible rfl)
  rotate_left
  ·simp only [Act.put, ssB, ssZ, ssS, i64_w, i32_w]
   rfl
  refine one_ (i := 1) (N := some 4) #[true, true, false] rfl rfl (by kernel_rfl) (by decide) (fun K hK => ?_); refine gU Try.func44 #[] ?_; (with_reducible refine (spread_none.calls  t177 t178 t179 _ A2.out).mono ?_); rintro e w6 ⟨rfl, hb⟩; refine ⟨_, rfl, ?_⟩; replace BK176 := bY hb BK176; replace HB := aaM (lP (lB HB) hb); (try clear hb); (try clear hb2); (try clear hk); (try clear hi); refine hK.out _ _ hD (fun hHeld => ?_); clear hK K; refine nU 4 ?_
  refine pure_ (i := 2) (N := some 5) (v := ?_) (a' := ?_) #[true, true, true] rfl rfl (by kernel_rfl) (fun _ _ _ h => h) (Or.inl ⟨by rfl, ?_⟩) ?_ ?_; rotate_left
  ·intro w'
   go_simp; (with_reducible rfl)
  rotate_left
  ·simp only [Act.put, ssB, ssZ, ssS, i64_w, i32_w]
   rfl
  refine done_ (by kernel_rfl) ?_; (try go_wp2)
  all_goals (go_ret; exact ⟨by first | rfl | (simp [errW_none, errW_some] <;> rfl) | (simp [*, errW_none, errW_some] <;> rfl) | (simp_all; done), lB HB⟩)
 ·rw [if_neg c3] at H
  have c3b0 : (a0_0 == t177 && (a0_1 == t178 && (a0_2 == t179))) = false := by simpa using c3
  (try (have c3b1 : decide (a0_0 = t177 && (a0_1 == t178 && (a0_2 == t179))) = false := by simpa using c3)); (try (have c3b2 : (a0_0 == t177 && (a0_1 == t178 && (a0_2 == t179))) = false := by simpa using c3)); (try (have c3b3 : ¬ (a0_0 = t177 && (a0_1 == t178 && (a0_2 == t179))) := by simpa using c3)); clear c3; have HC7 := aaM H; clear H; go_enter Try.func17, Try.ntmps17; (try go_wp2_with (first | ((with_reducible refine gate_dst (N := 1) rfl ?_); refine bxF w HB 1 #[.int .i64 a0_0, .int .i64 a0_1, .int .i64 a0_2] 26 ?_; intro gb176 hg w8 hb BK176 HB GE176; have GW176 := GE176; clear hb hg))); replace BK176 := aaM (bD BK176.out); replace HB := aaM (lD HB.out); refine start_ (n := 3) (S := fun w' => w'.cell? ⟨gb176, 0, none⟩ = some (.int .i64 a0_0) ∧ w'.cell? ⟨gb176, 1, none⟩ = some (.int .i64 a0_1) ∧ w'.cell? ⟨gb176, 2, none⟩ = some (.int .i64 a0_2)) (ds := []) _ (by kernel_rfl) rfl rfl hD (fun hHeld => ?_); generalize w8.drew = w9 at BK176 HB hHeld ⊢; refine take_ (i := 0) (N := some 3) (v := ?_) (a' := ?_) #[true, false, false] rfl rfl (by kernel_rfl) (fun _ _ _ h => h) (Or.inl ⟨by rfl, ?_⟩) hHeld ?_ ?_; rotate_left
  ·rintro w' ⟨s0, s1, s2⟩
   go_simp; (with_reducible rfl)
  rotate_left
  ·simp only [Act.put, ssB, ssZ, ssS, i64_w, i32_w]
   rfl
  refine one_ (i := 1) (N := some 4) #[true, true, false] rfl rfl (by kernel_rfl) (by decide) (fun K hK => ?_); refine gU Try.func44 #[] ?_; (with_reducible refine (spread_none.calls  t177 t178 t179 _ A2.out).mono ?_); rintro e w10 ⟨rfl, hb⟩; refine ⟨_, rfl, ?_⟩; replace BK176 := bY hb BK176; replace HB := aaM (lP (lB HB) hb); (try clear hb); (try clear hb2); (try clear hk); (try clear hi); refine hK.out _ _ hD (fun hHeld => ?_); clear hK K; refine nU 4 ?_
  refine pure_ (i := 2) (N := some 5) (v := ?_) (a' := ?_) #[true, true, true] rfl rfl (by kernel_rfl) (fun _ _ _ h => h) (Or.inl ⟨by rfl, ?_⟩) ?_ ?_; rotate_left
  ·intro w'
   go_simp; (with_reducible rfl)
  rotate_left
  ·simp only [Act.put, ssB, ssZ, ssS, i64_w, i32_w]
   rfl
  refine done_ (by kernel_rfl) ?_
  go_upto_region 3 with (fail)
  go_cut [26] (fun v26 wc => ∃ (kq : Nat) (x26_6 : Bool), v26 = .bool x26_6 ∧ Aside0 (spread_May.j0 kq x26_6 a0_0 a0_1 a0_2 = some r) ∧ Aside0 (kq ≤ k) ∧ Aside0 (wc.heap[gb176]? = some (.cells #[.int .i64 a0_0, .int .i64 a0_1, .int .i64 a0_2] 26 (0, 0))) ∧ Aside0 (Below w.heap.size w wc))
  case first =>
   have H := HC7.out; clear HC7
   by_cases c11 : a0_0 < 1
   ·rw [if_pos c11] at H
    have c11b0 : decide (a0_0 < 1) = true := decide_eq_true c11; clear c11; (first | rw [c11b0] | (simp only [i64_w, i32_w]; rw [c11b0]) | skip); have H' := aaM H; clear H; obtain ⟨hcz12_0, hcz12_1, hcz12_2, hfz12_0, hfz12_1, hfz12_2⟩ := bE3 BK176.out; go_wp2
    go_meet
    case rel => exact ⟨_, (true), (eF), H', ⟨by first | omega | exact Nat.le_refl _⟩, ⟨bZ BK176⟩, ⟨lB HB⟩⟩
   ·rw [if_neg c11] at H
    have c11b0 : decide (a0_0 < 1) = false := decide_eq_false c11; clear c11; (first | rw [c11b0] | (simp only [i64_w, i32_w]; rw [c11b0]) | skip)
    by_cases c13 : a0_0 > 1048576
    ·rw [if_pos c13] at H
     have c13b0 : decide (1048576 < a0_0) = true := decide_eq_true c13; clear c13; have H' := aaM H; clear H; obtain ⟨hcz14_0, hcz14_1, hcz14_2, hfz14_0, hfz14_1, hfz14_2⟩ := bE3 BK176.out; go_wp2
     go_meet
     case rel => exact ⟨_, (true), (eF), H', ⟨by first | omega | exact Nat.le_refl _⟩, ⟨bZ BK176⟩, ⟨lB HB⟩⟩
    ·rw [if_neg c13] at H
     have c13b0 : decide (1048576 < a0_0) = false := decide_eq_false c13; clear c13
     by_cases c15 : a0_2 < 0
     ·rw [if_pos c15] at H
      have c15b0 : decide (a0_2 < 0) = true := decide_eq_true c15; clear c15; have H' := aaM H; clear H; obtain ⟨hcz16_0, hcz16_1, hcz16_2, hfz16_0, hfz16_1, hfz16_2⟩ := bE3 BK176.out; go_wp2
      go_meet
      case rel => exact ⟨_, (true), (eF), H', ⟨by first | omega | exact Nat.le_refl _⟩, ⟨bZ BK176⟩, ⟨lB HB⟩⟩
     ·rw [if_neg c15] at H
      have c15b0 : decide (a0_2 < 0) = false := decide_eq_false c15; clear c15; have H' := aaM H; clear H; obtain ⟨hcz17_0, hcz17_1, hcz17_2, hfz17_0, hfz17_1, hfz17_2⟩ := bE3 BK176.out; go_wp2
      go_meet
      case rel => exact ⟨_, (decide (a0_2 > (wrap64 (1099511627776 * a0_0)))), (eF), H', ⟨by first | omega | exact Nat.le_refl _⟩, ⟨bZ BK176⟩, ⟨lB HB⟩⟩
  case rest =>
   clear HC7; (try clear c1); (try clear p2); (try clear c3); (try clear c3b0); (try clear c3b1); (try clear c3b2); (try clear c4); (try clear p6); (try clear c11); (try clear c11b0); (try clear c13); (try clear c13b0); (try clear c15); (try clear c15b0); (try clear c17); (try clear hcz12_0); (try clear hcz12_1); (try clear hcz12_2); (try clear hcz14_0); (try clear hcz14_1); (try clear hcz14_2); (try clear hcz16_0); (try clear hcz16_1); (try clear hcz16_2); (try clear hcz17_0); (try clear hcz17_1); (try clear hcz17_2); (try clear hfz12_0); (try clear hfz12_1); (try clear hfz12_2); (try clear hfz14_0); (try clear hfz14_1); (try clear hfz14_2); (try clear hfz16_0); (try clear hfz16_1); (try clear hfz16_2); (try clear hfz17_0); (try clear hfz17_1); (try clear hfz17_2); obtain ⟨kq, x26_6, rfl, HA, HJ6, BK176, HB⟩ := hcut
   cases kq with
   | zero => exact absurd HA.out (by simp [spread_May.j0])
   | succ kj6 =>
    have H := HA.out; clear HA; simp only [spread_May.j0] at H
    by_cases c18 : x26_6 = true
    ·subst c18
     have H1 : (some false) = some r := by rw [if_pos rfl] at H; exact H
     clear H; have H := H1; clear H1; obtain rfl := Option.some.inj H; go_wp2
     all_goals (go_ret; exact ⟨by first | rfl | (simp [errW_none, errW_some] <;> rfl) | (simp [*, errW_none, errW_some] <;> rfl) | (simp_all; done), lB HB⟩)
    ·replace c18 := Bool.eq_false_iff.mpr c18
     subst c18
     have H1 : (if a0_1 > (wrap64 (1048576 * a0_0)) then (spread_May.j1 kj6 true a0_0 a0_1 a0_2) else (spread_May.j1 kj6 (decide (a0_1 < (wrap64 ((-1048576) * a0_0)))) a0_0 a0_1 a0_2)) = some r := by rw [if_neg (show ¬ (false = true) by decide)] at H; exact H
     clear H; have H := H1; clear H1; have HC19 := aaM H; clear H
     go_upto_region 5 with (fail)
     go_cut [40] (fun v40 wc => ∃ (kq : Nat) (x40_18 : Bool), v40 = .bool x40_18 ∧ Aside0 (spread_May.j1 kq x40_18 a0_0 a0_1 a0_2 = some r) ∧ Aside0 (kq ≤ kj6) ∧ Aside0 (wc.heap[gb176]? = some (.cells #[.int .i64 a0_0, .int .i64 a0_1, .int .i64 a0_2] 26 (0, 0))) ∧ Aside0 (Below w.heap.size w wc))
     case first =>
      have H := HC19.out; clear HC19
      by_cases c20 : a0_1 > (wrap64 (1048576 * a0_0))
      ·rw [if_pos c20] at H
       have c20b0 : decide ((wrap64 (1048576 * a0_0)) < a0_1) = true := decide_eq_true c20; clear c20; (first | rw [c20b0] | (simp only [i64_w, i32_w]; rw [c20b0]) | skip); have H' := aaM H; clear H; obtain ⟨hcz21_0, hcz21_1, hcz21_2, hfz21_0, hfz21_1, hfz21_2⟩ := bE3 BK176.out; go_wp2
       go_meet
       case rel => exact ⟨_, (true), (eF), H', ⟨by have := HJ6.out; first | omega | exact Nat.le_refl _⟩, ⟨bZ BK176⟩, ⟨lB HB⟩⟩
      ·rw [if_neg c20] at H
       have c20b0 : decide ((wrap64 (1048576 * a0_0)) < a0_1) = false := decide_eq_false c20; clear c20; (first | rw [c20b0] | (simp only [i64_w, i32_w]; rw [c20b0]) | skip); have H' := aaM H; clear H; obtain ⟨hcz22_0, hcz22_1, hcz22_2, hfz22_0, hfz22_1, hfz22_2⟩ := bE3 BK176.out; go_wp2
       go_meet
       case rel => exact ⟨_, (decide (a0_1 < (wrap64 ((-1048576) * a0_0)))), (eF), H', ⟨by have := HJ6.out; first | omega | exact Nat.le_refl _⟩, ⟨bZ BK176⟩, ⟨lB HB⟩⟩
     case rest =>
      clear HC19; (try clear c1); (try clear c2); (try clear p2); (try clear c3); (try clear c3b0); (try clear c3b1); (try clear c3b2); (try clear c4); (try clear p6); (try clear c11); (try clear c11b0); (try clear c13); (try clear c13b0); (try clear c15); (try clear c15b0); (try clear c17); (try clear c18); (try clear c20); (try clear c20b0); (try clear hcz12_0); (try clear hcz12_1); (try clear hcz12_2); (try clear hcz14_0); (try clear hcz14_1); (try clear hcz14_2); (try clear hcz16_0); (try clear hcz16_1); (try clear hcz16_2); (try clear hcz17_0); (try clear hcz17_1); (try clear hcz17_2); (try clear hcz21_0); (try clear hcz21_1); (try clear hcz21_2); (try clear hcz22_0); (try clear hcz22_1); (try clear hcz22_2); (try clear hfz12_0); (try clear hfz12_1); (try clear hfz12_2); (try clear hfz14_0); (try clear hfz14_1); (try clear hfz14_2); (try clear hfz16_0); (try clear hfz16_1); (try clear hfz16_2); (try clear hfz17_0); (try clear hfz17_1); (try clear hfz17_2); (try clear hfz21_0); (try clear hfz21_1); (try clear hfz21_2); (try clear hfz22_0); (try clear hfz22_1); (try clear hfz22_2); (try clear p2); (try clear p6); obtain ⟨kq, x40_18, rfl, HA, HJ18, BK176, HB⟩ := hcut
      cases kq with
      | zero => exact absurd HA.out (by simp [spread_May.j1])
      | succ kj18 =>
       have H := HA.out; clear HA; simp only [spread_May.j1] at H
       by_cases c23 : x40_18 = true
       ·subst c23
        have H1 : (some false) = some r := by rw [if_pos rfl] at H; exact H
        clear H; have H := H1; clear H1; obtain rfl := Option.some.inj H; go_wp2
        all_goals (go_ret; exact ⟨by first | rfl | (simp [errW_none, errW_some] <;> rfl) | (simp [*, errW_none, errW_some] <;> rfl) | (simp_all; done), lB HB⟩)
       ·replace c23 := Bool.eq_false_iff.mpr c23
        subst c23
        have H1 : ((prod_Square.f a0_1).bind fun bt180 => ((spread_bound.f a0_0 a0_1 a0_2).bind fun bt182 => ((prod_Cmp.f kj18 bt180.1 bt180.2 bt182.1 bt182.2).bind fun t184 => (some (decide (t184 ≤ 0)))))) = some r := by rw [if_neg (show ¬ (false = true) by decide)] at H; exact H
        clear H; have H := H1; clear H1; replace H := ooB.mp H; obtain ⟨⟨t180, t181⟩, A240, H⟩ := H; replace H : ((spread_bound.f a0_0 a0_1 a0_2).bind fun bt182 => ((prod_Cmp.f kj18 t180 t181 bt182.1 bt182.2).bind fun t184 => (some (decide (t184 ≤ 0))))) = some r := H; have A24 := aaM A240; clear A240; replace H := ooB.mp H; obtain ⟨⟨t182, t183⟩, A250, H⟩ := H; replace H : ((prod_Cmp.f kj18 t180 t181 t182 t183).bind fun t184 => (some (decide (t184 ≤ 0)))) = some r := H; have A25 := aaM A250; clear A250; replace H := ooB.mp H; obtain ⟨t184, A260, H⟩ := H; replace H : (some (decide (t184 ≤ 0))) = some r := H; have A26 := aaM A260; clear A260; obtain rfl := Option.some.inj H; (try go_wp2); replace BK176 := aaM (bD BK176.out); replace HB := aaM (lD HB.out); refine start_ (n := 8) (S := fun w' => w'.cell? ⟨gb176, 0, none⟩ = some (.int .i64 a0_0) ∧ w'.cell? ⟨gb176, 1, none⟩ = some (.int .i64 a0_1) ∧ w'.cell? ⟨gb176, 2, none⟩ = some (.int .i64 a0_2)) (ds := []) _ (by kernel_rfl) rfl rfl hD (fun hHeld => ?_); refine with_tabW spread_May.tab7 spread_May.bits7 (fun HT_ HW_ => ?_); generalize wc.drew = w27 at BK176 HB hHeld ⊢; refine pU 0 41 (qB 8 1) HT_ ?_
        refine tU 1 42 (qB 8 3) HT_ HW_ hHeld ?_
        refine tU 3 44 (qB 8 11) HT_ HW_ hHeld ?_
        refine oU 2 (some 43) (qB 8 15) HT_ (fun K hK => ?_); refine gU Try.func46 #[.int .i64 a0_1] ?_; (with_reducible refine (prod_Square.calls a0_1 t180 t181 _ A24.out).mono ?_); rintro e w28 ⟨rfl, hb⟩; refine ⟨_, rfl, ?_⟩; replace BK176 := bY hb BK176; replace HB := aaM (lP (lB HB) hb); (try clear hb); (try clear hb2); (try clear hk); (try clear hi); refine hK.out _ _ hD (fun hHeld => ?_); clear hK K; refine nU 43 ?_
        refine oU 4 (some 45) (qB 8 31) HT_ (fun K hK => ?_); refine gU Try.func47 #[.agg #[.int .i64 a0_0, .int .i64 a0_1, .int .i64 a0_2]] ?_; (with_reducible refine (spread_bound.calls a0_0 a0_1 a0_2 t182 t183 _ A25.out).mono ?_); rintro e w29 ⟨rfl, hb⟩; refine ⟨_, rfl, ?_⟩; replace BK176 := bY hb BK176; replace HB := aaM (lP (lB HB) hb); (try clear hb); (try clear hb2); (try clear hk); (try clear hi); refine hK.out _ _ hD (fun hHeld => ?_); clear hK K; refine nU 45 ?_
        refine oU 5 (some 46) (qB 8 63) HT_ (fun K hK => ?_); refine gU Try.func45 #[.agg #[.int .u64 t180, .int .u64 t181], .agg #[.int .u64 t182, .int .u64 t183]] ?_; (with_reducible refine (prod_Cmp.calls kj18 t180 t181 t182 t183 t184 _ A26.out).mono ?_); rintro e w30 ⟨rfl, hb⟩; refine ⟨_, rfl, ?_⟩; replace BK176 := bY hb BK176; replace HB := aaM (lP (lB HB) hb); (try clear hb); (try clear hb2); (try clear hk); (try clear hi); refine hK.out _ _ hD (fun hHeld => ?_); clear hK K; refine nU 46 ?_
        refine pU 6 47 (qB 8 127) HT_ ?_
        refine pU 7 2 (qB 8 255) HT_ ?_
        refine done_ (done_of HT_.out (by kernel_rfl)) ?_; (try go_wp2)
        all_goals (go_ret; exact ⟨by first | rfl | (simp [errW_none, errW_some] <;> rfl) | (simp [*, errW_none, errW_some] <;> rfl) | (simp_all; done), lB HB⟩)

/-! ### spread_there: function 42 -/
def spread_there.f (k : Nat) (a0_0 : Int) (a0_1 : Int) (a0_2 : Int) : Option (Bool) := if a0_0 > 0 then ((spread_May.f k a0_0 a0_1 a0_2).bind fun t186 => (some t186)) else (some false)
theorem spread_there.mono : ∀ a0 a1 a2 k, LeO (spread_there.f k a0 a1 a2) (spread_there.f (k + 1) a0 a1 a2) := by
 intro a0 a1 a2 k
 unfold spread_there.f
 repeat' first
   | (with_reducible exact spread_May.mono _ _ _ _)
   | (with_reducible exact LeO.refl _)
   | (with_reducible exact LeO.none _)
   | (with_reducible refine LeO.ite ?_ ?_)
   | (with_reducible refine LeO.bind ?_ (fun _ => ?_))
   | exact spread_May.mono _ _ _ _
   | exact LeO.none _
   | refine LeO.ite ?_ ?_
   | refine LeO.bind ?_ (fun _ => ?_)
set_option maxHeartbeats 8000000 in
set_option maxRecDepth 100000 in
theorem spread_there.calls (k : Nat) (a0_0 : Int) (a0_1 : Int) (a0_2 : Int) (r : Bool) (w : World) (h : spread_there.f k a0_0 a0_1 a0_2 = some r) :
  Calls Try.prog 42 #[.agg #[.int .i64 a0_0, .int .i64 a0_1, .int .i64 a0_2]] w fun e w' => e = .returned (.bool r) ∧ Below w.heap.size w w' := by
 have hu26 := Try.underlying26
 have HB := aaM (Below.refl w.heap.size w)
 have H : (if a0_0 > 0 then ((spread_May.f k a0_0 a0_1 a0_2).bind fun t186 => (some t186)) else (some false)) = some r := h
 clear h
 by_cases c2 : a0_0 > 0
 ·rw [if_pos c2] at H
  have c2b0 : decide (0 < a0_0) = true := decide_eq_true c2; clear c2; replace H := ooB.mp H; obtain ⟨t186, A30, H⟩ := H; replace H : (some t186) = some r := H; have A3 := aaM A30; clear A30; obtain rfl := Option.some.inj H; go_enter Try.func42, Try.ntmps42
  go_wp2_with (first | ((with_reducible refine gate_dst (N := 1) rfl ?_); refine bxF w HB 1 #[.int .i64 a0_0, .int .i64 a0_1, .int .i64 a0_2] 26 ?_; intro gb185 hg w4 hb BK185 HB GE185; have GW185 := GE185; clear hb hg; obtain ⟨_, _, _, _, _, _⟩ := bE3 BK185.out) | (go_at_call 17; (with_reducible refine (spread_May.calls k a0_0 a0_1 a0_2 t186 _ A3.out).mono ?_); rintro e w6 ⟨rfl, hb⟩; replace BK185 := bY hb BK185; replace HB := aaM (lP (lB HB) hb); (try clear hb); (try clear hb2); (try clear hk); (try clear hi)))
  all_goals (go_ret; exact ⟨by first | rfl | (simp [errW_none, errW_some] <;> rfl) | (simp [*, errW_none, errW_some] <;> rfl) | (simp_all; done), lB HB⟩)
 ·rw [if_neg c2] at H
  have c2b0 : decide (0 < a0_0) = false := decide_eq_false c2; clear c2; obtain rfl := Option.some.inj H; go_enter Try.func42, Try.ntmps42
  go_wp2_with (first | ((with_reducible refine gate_dst (N := 1) rfl ?_); refine bxF w HB 1 #[.int .i64 a0_0, .int .i64 a0_1, .int .i64 a0_2] 26 ?_; intro gb185 hg w7 hb BK185 HB GE185; have GW185 := GE185; clear hb hg; obtain ⟨_, _, _, _, _, _⟩ := bE3 BK185.out))
  all_goals (go_ret; exact ⟨by first | rfl | (simp [errW_none, errW_some] <;> rfl) | (simp [*, errW_none, errW_some] <;> rfl) | (simp_all; done), lB HB⟩)

/-! ### bits_Add64: function 75 -/

section
variable {P : Program} {ops : Array Oper} {Q : Exit → Act → World → Prop}
/-- A call of a function without a body: the model's entry tells its value at once. -/
def XCalls (P : Program) (f : FuncId) (args : Array Value) (w : World) (post : Ending → World → Prop) : Prop :=
 ∃ v, (callFunc f args).run P w = .ok (.value v) w ∧ post (.returned v) w
theorem XCalls.mono {f : FuncId} {args : Array Value} {w : World} {p q : Ending → World → Prop} (h : XCalls P f args w p) (hpq : ∀ e w', p e w' → q e w') : XCalls P f args w q := by
 obtain ⟨v, hr, hp⟩ := h
 exact ⟨v, hr, hpq _ _ hp⟩
theorem goesX_ {rest : List Oper} {oi : Oper} {a : Act} {w : World} (N : Option Tmp) (hd : oi.dst = N) (hg : oi.guard = none) {f : FuncId} {os_ : Array Operand} {ts : Array TypeId} (args : Array Value)
  (hop : oi.op = .call { callee := .value (.func f), args := os_, argTypes := ts }) (hargs : os_.map a.eval = args)
  (h : XCalls P f args w fun e w' => ∃ v, e = .returned v ∧ wpList P ops Q rest (a.put N v) w') : wpList P ops Q (oi :: rest) a w := by
 refine wpList_plain hg fun K hK => ?_
 obtain ⟨v, hr, v', he, hk⟩ := h
 obtain rfl := Ending.returned.inj he
 have hrun : (execOp a.eval oi).run P w = .ok (.value v) w := by
  unfold execOp
  simp [hop, resolve, Deferred.ofValue, invoke, Act.eval, hargs, hr]
 unfold Oper.wp
 rw [hrun, Oper.upon_value]
 subst hd
 exact hK _ _ hk
end
def bits_Add64.f (a0 : Int) (a1 : Int) (a2 : Int) : Option (Int × Int) := if 0 ≤ a0 ∧ 0 ≤ a1 ∧ 0 ≤ a2 ∧ a2 ≤ 1 then some ((a0 + a1 + a2) % 18446744073709551616, (a0 + a1 + a2) / 18446744073709551616) else none
theorem bits_Add64.calls (a0 : Int) (a1 : Int) (a2 : Int) (r1 : Int) (r2 : Int) (w : World) (h : bits_Add64.f a0 a1 a2 = some (r1, r2)) :
  XCalls Try.prog 75 #[.int .u64 a0, .int .u64 a1, .int .u64 a2] w fun e w' => e = .returned (.tuple #[.int .u64 r1, .int .u64 r2]) ∧ Drawn0 w w' := by
 unfold bits_Add64.f at h
 split at h
 ·rename_i hc
  simp only [Option.some.injEq, Prod.mk.injEq] at h; obtain ⟨rfl, rfl⟩ := h; refine ⟨_, ?_, rfl, Drawn0.refl _⟩; rw [run_callFunc_extern Try.func75 (by kernel_rfl) (by kernel_rfl) (by kernel_rfl) (e := add64Entry) (by kernel_rfl), run_add64 a0 a1 a2 hc.1 hc.2.1 hc.2.2.1 hc.2.2.2]; rfl
 ·cases h


/-! ### prod_Add: function 56 -/
def prod_Add.f (a0_0 : Int) (a0_1 : Int) (a1_0 : Int) (a1_1 : Int) : Option (Int × Int × Int) := (bits_Add64.f a0_1 a1_1 0).bind fun bt190 => ((bits_Add64.f a0_0 a1_0 bt190.2).bind fun bt192 => (if bt192.2 = 0 then (some (bt192.1, bt190.1, 0)) else (some (0, 0, 6))))
set_option maxHeartbeats 8000000 in
set_option maxRecDepth 100000 in
theorem prod_Add.calls (a0_0 : Int) (a0_1 : Int) (a1_0 : Int) (a1_1 : Int) (r1 : Int) (r2 : Int) (r3 : Int) (w : World) (h : prod_Add.f a0_0 a0_1 a1_0 a1_1 = some (r1, r2, r3)) :
  Calls Try.prog 56 #[.agg #[.int .u64 a0_0, .int .u64 a0_1], .agg #[.int .u64 a1_0, .int .u64 a1_1]] w fun e w' => e = .returned (.tuple #[.agg #[.int .u64 r1, .int .u64 r2], .int .i64 r3]) ∧ Below w.heap.size w w' := by
 have hu34 := Try.underlying34
 have HB := aaM (Below.refl w.heap.size w)
 have H : ((bits_Add64.f a0_1 a1_1 0).bind fun bt190 => ((bits_Add64.f a0_0 a1_0 bt190.2).bind fun bt192 => (if bt192.2 = 0 then (some (bt192.1, bt190.1, 0)) else (some (0, 0, 6))))) = some (r1, r2, r3) := h
 clear h
 replace H := ooB.mp H
 obtain ⟨⟨t190, t191⟩, A30, H⟩ := H
 replace H : ((bits_Add64.f a0_0 a1_0 t191).bind fun bt192 => (if bt192.2 = 0 then (some (bt192.1, t190, 0)) else (some (0, 0, 6)))) = some (r1, r2, r3) := H
 have A3 := aaM A30
 clear A30
 replace H := ooB.mp H
 obtain ⟨⟨t192, t193⟩, A40, H⟩ := H
 replace H : (if t193 = 0 then (some (t192, t190, 0)) else (some (0, 0, 6))) = some (r1, r2, r3) := H
 have A4 := aaM A40
 clear A40
 by_cases c5 : t193 = 0
 ·rw [if_pos c5] at H
  have c5b0 : (t193 == 0) = true := beq_iff_eq.mpr c5; have c5b1 : (t193 != 0) = false := bne_eq_false_iff_eq.mpr c5; clear c5; simp only [Option.some.injEq, Prod.mk.injEq] at H; obtain ⟨rfl, rfl, rfl⟩ := H; go_enter Try.func56, Try.ntmps56
  go_wp2_with (first | ((with_reducible refine gate_dst (N := 2) rfl ?_); refine bxF w HB 2 #[.int .u64 a0_0, .int .u64 a0_1] 34 ?_; intro gb187 hg w6 hb BK187 HB GE187; have GW187 := GE187; clear hb hg) | ((with_reducible refine gate_dst (N := 3) rfl ?_); refine bxF w HB 3 #[.int .u64 a1_0, .int .u64 a1_1] 34 ?_; intro gb188 hg w7 hb BK188 HB GE188; have GW188 := GE188; obtain ⟨NB187_188, NB188_187⟩ := nS hg BK187; replace BK187 := bY hb BK187; clear hb hg) | ((with_reducible refine gate_dst (N := 4) rfl ?_); refine bxF w HB 4 #[.int .u64 0, .int .u64 0] 34 ?_; intro gb189 hg w8 hb BK189 HB GE189; have GW189 := GE189; obtain ⟨NB187_189, NB189_187⟩ := nS hg BK187; replace BK187 := bY hb BK187; obtain ⟨NB188_189, NB189_188⟩ := nS hg BK188; replace BK188 := bY hb BK188; clear hb hg; have := NB187_188.out; have := NB188_187.out; have := NB187_189.out; have := NB189_187.out; obtain ⟨_, _, _, _⟩ := bE2 BK187.out; have := NB188_189.out; have := NB189_188.out; obtain ⟨_, _, _, _⟩ := bE2 BK188.out) | ((with_reducible refine gate_callee (f := 75) rfl ?_); refine goesX_ (some 15) rfl rfl #[.int .u64 a0_1, .int .u64 a1_1, .int .u64 0] rfl mG ?_; (with_reducible refine (bits_Add64.calls a0_1 a1_1 0 t190 t191 _ A3.out).mono ?_); rintro e w' ⟨rfl, ⟨nd, rfl⟩⟩; refine ⟨_, rfl, ?_⟩; (try (rw [drewN_self w8]; generalize hq_ : World.drewN w8 _ = w8; have n0_ : Aside0 (w8.heap[gb187]? = some (.cells #[.int .u64 a0_0, .int .u64 a0_1] 34 (0, 0))) := ⟨by rw [← hq_]; exact (bZ BK187)⟩; have n1_ : Aside0 (w8.heap[gb188]? = some (.cells #[.int .u64 a1_0, .int .u64 a1_1] 34 (0, 0))) := ⟨by rw [← hq_]; exact (bZ BK188)⟩; have n2_ : Aside0 (w8.heap[gb189]? = some (.cells #[.int .u64 0, .int .u64 0] 34 (0, 0))) := ⟨by rw [← hq_]; exact (bZ BK189)⟩; have n3_ : Aside0 (Below w.heap.size w w8) := ⟨by rw [← hq_]; exact (lB HB)⟩; clear BK187 BK188 BK189 HB hq_; have BK187 := n0_; have BK188 := n1_; have BK189 := n2_; have HB := n3_; clear n0_ n1_ n2_ n3_; obtain ⟨hcy187_0, hcy187_1, hfy187_0, hfy187_1⟩ := bE2 BK187.out; obtain ⟨hcy188_0, hcy188_1, hfy188_0, hfy188_1⟩ := bE2 BK188.out; obtain ⟨hcy189_0, hcy189_1, hfy189_0, hfy189_1⟩ := bE2 BK189.out))) | ((with_reducible refine gate_callee (f := 75) rfl ?_); refine goesX_ (some 24) rfl rfl #[.int .u64 a0_0, .int .u64 a1_0, .int .u64 t191] rfl mG ?_; (with_reducible refine (bits_Add64.calls a0_0 a1_0 t191 t192 t193 _ A4.out).mono ?_); rintro e w' ⟨rfl, ⟨nd, rfl⟩⟩; refine ⟨_, rfl, ?_⟩; (try (rw [drewN_self w8]; generalize hq_ : World.drewN w8 _ = w8; have n0_ : Aside0 (w8.heap[gb187]? = some (.cells #[.int .u64 a0_0, .int .u64 a0_1] 34 (0, 0))) := ⟨by rw [← hq_]; exact (bZ BK187)⟩; have n1_ : Aside0 (w8.heap[gb188]? = some (.cells #[.int .u64 a1_0, .int .u64 a1_1] 34 (0, 0))) := ⟨by rw [← hq_]; exact (bZ BK188)⟩; have n2_ : Aside0 (w8.heap[gb189]? = some (.cells #[.int .u64 0, .int .u64 0] 34 (0, 0))) := ⟨by rw [← hq_]; exact (bZ BK189)⟩; have n3_ : Aside0 (Below w.heap.size w w8) := ⟨by rw [← hq_]; exact (lB HB)⟩; clear BK187 BK188 BK189 HB hq_; have BK187 := n0_; have BK188 := n1_; have BK189 := n2_; have HB := n3_; clear n0_ n1_ n2_ n3_; obtain ⟨hcy187_0, hcy187_1, hfy187_0, hfy187_1⟩ := bE2 BK187.out; obtain ⟨hcy188_0, hcy188_1, hfy188_0, hfy188_1⟩ := bE2 BK188.out; obtain ⟨hcy189_0, hcy189_1, hfy189_0, hfy189_1⟩ := bE2 BK189.out)); obtain ⟨_, _, _, _⟩ := bE2 BK189.out))
  refine bodyPost_ret (results_ct rfl _ _ gb189 34 #[.int .u64 t192, .int .u64 t190] (0, 0) _ rfl (bZ BK189) Try.underlying34 rfl (by kernel_rfl)) rfl ?_
  exact ⟨eE, lB HB⟩
 ·rw [if_neg c5] at H
  have c5b0 : (t193 == 0) = false := beq_eq_false_iff_ne.mpr c5; have c5b1 : (t193 != 0) = true := bne_iff_ne.mpr c5; simp only [Option.some.injEq, Prod.mk.injEq] at H; obtain ⟨rfl, rfl, rfl⟩ := H; go_enter Try.func56, Try.ntmps56
  go_wp2_with (first | ((with_reducible refine gate_dst (N := 2) rfl ?_); refine bxF w HB 2 #[.int .u64 a0_0, .int .u64 a0_1] 34 ?_; intro gb187 hg w15 hb BK187 HB GE187; have GW187 := GE187; clear hb hg) | ((with_reducible refine gate_dst (N := 3) rfl ?_); refine bxF w HB 3 #[.int .u64 a1_0, .int .u64 a1_1] 34 ?_; intro gb188 hg w16 hb BK188 HB GE188; have GW188 := GE188; obtain ⟨NB187_188, NB188_187⟩ := nS hg BK187; replace BK187 := bY hb BK187; clear hb hg) | ((with_reducible refine gate_dst (N := 4) rfl ?_); refine bxF w HB 4 #[.int .u64 0, .int .u64 0] 34 ?_; intro gb189 hg w17 hb BK189 HB GE189; have GW189 := GE189; obtain ⟨NB187_189, NB189_187⟩ := nS hg BK187; replace BK187 := bY hb BK187; obtain ⟨NB188_189, NB189_188⟩ := nS hg BK188; replace BK188 := bY hb BK188; clear hb hg; have := NB187_188.out; have := NB188_187.out; have := NB187_189.out; have := NB189_187.out; obtain ⟨_, _, _, _⟩ := bE2 BK187.out; have := NB188_189.out; have := NB189_188.out; obtain ⟨_, _, _, _⟩ := bE2 BK188.out) | ((with_reducible refine gate_callee (f := 75) rfl ?_); refine goesX_ (some 15) rfl rfl #[.int .u64 a0_1, .int .u64 a1_1, .int .u64 0] rfl mG ?_; (with_reducible refine (bits_Add64.calls a0_1 a1_1 0 t190 t191 _ A3.out).mono ?_); rintro e w' ⟨rfl, ⟨nd, rfl⟩⟩; refine ⟨_, rfl, ?_⟩; (try (rw [drewN_self w17]; generalize hq_ : World.drewN w17 _ = w17; have n0_ : Aside0 (w17.heap[gb187]? = some (.cells #[.int .u64 a0_0, .int .u64 a0_1] 34 (0, 0))) := ⟨by rw [← hq_]; exact (bZ BK187)⟩; have n1_ : Aside0 (w17.heap[gb188]? = some (.cells #[.int .u64 a1_0, .int .u64 a1_1] 34 (0, 0))) := ⟨by rw [← hq_]; exact (bZ BK188)⟩; have n2_ : Aside0 (w17.heap[gb189]? = some (.cells #[.int .u64 0, .int .u64 0] 34 (0, 0))) := ⟨by rw [← hq_]; exact (bZ BK189)⟩; have n3_ : Aside0 (Below w.heap.size w w17) := ⟨by rw [← hq_]; exact (lB HB)⟩; clear BK187 BK188 BK189 HB hq_; have BK187 := n0_; have BK188 := n1_; have BK189 := n2_; have HB := n3_; clear n0_ n1_ n2_ n3_; obtain ⟨hcy187_0, hcy187_1, hfy187_0, hfy187_1⟩ := bE2 BK187.out; obtain ⟨hcy188_0, hcy188_1, hfy188_0, hfy188_1⟩ := bE2 BK188.out; obtain ⟨hcy189_0, hcy189_1, hfy189_0, hfy189_1⟩ := bE2 BK189.out))) | ((with_reducible refine gate_callee (f := 75) rfl ?_); refine goesX_ (some 24) rfl rfl #[.int .u64 a0_0, .int .u64 a1_0, .int .u64 t191] rfl mG ?_; (with_reducible refine (bits_Add64.calls a0_0 a1_0 t191 t192 t193 _ A4.out).mono ?_); rintro e w' ⟨rfl, ⟨nd, rfl⟩⟩; refine ⟨_, rfl, ?_⟩; (try (rw [drewN_self w17]; generalize hq_ : World.drewN w17 _ = w17; have n0_ : Aside0 (w17.heap[gb187]? = some (.cells #[.int .u64 a0_0, .int .u64 a0_1] 34 (0, 0))) := ⟨by rw [← hq_]; exact (bZ BK187)⟩; have n1_ : Aside0 (w17.heap[gb188]? = some (.cells #[.int .u64 a1_0, .int .u64 a1_1] 34 (0, 0))) := ⟨by rw [← hq_]; exact (bZ BK188)⟩; have n2_ : Aside0 (w17.heap[gb189]? = some (.cells #[.int .u64 0, .int .u64 0] 34 (0, 0))) := ⟨by rw [← hq_]; exact (bZ BK189)⟩; have n3_ : Aside0 (Below w.heap.size w w17) := ⟨by rw [← hq_]; exact (lB HB)⟩; clear BK187 BK188 BK189 HB hq_; have BK187 := n0_; have BK188 := n1_; have BK189 := n2_; have HB := n3_; clear n0_ n1_ n2_ n3_; obtain ⟨hcy187_0, hcy187_1, hfy187_0, hfy187_1⟩ := bE2 BK187.out; obtain ⟨hcy188_0, hcy188_1, hfy188_0, hfy188_1⟩ := bE2 BK188.out; obtain ⟨hcy189_0, hcy189_1, hfy189_0, hfy189_1⟩ := bE2 BK189.out)); obtain ⟨_, _, _, _⟩ := bE2 BK189.out))
  refine bodyPost_ret (results_ct rfl _ _ gb189 34 #[.int .u64 0, .int .u64 0] (0, 0) _ rfl (bZ BK189) Try.underlying34 rfl (by kernel_rfl)) rfl ?_
  exact ⟨eE, lB HB⟩

/-! ### prod_Times: function 76 -/
def prod_Times.f (a0_0 : Int) (a0_1 : Int) (a1 : Int) : Option (Int × Int × Int) := (bits_Mul64.f a0_1 a1).bind fun bt196 => ((bits_Mul64.f a0_0 a1).bind fun bt198 => ((bits_Add64.f bt196.1 bt198.2 0).bind fun bt200 => (some (IntKind.u64.wrap (bt198.1 + bt200.2), bt200.1, bt196.2))))
set_option maxHeartbeats 8000000 in
set_option maxRecDepth 100000 in
theorem prod_Times.calls (a0_0 : Int) (a0_1 : Int) (a1 : Int) (r1 : Int) (r2 : Int) (r3 : Int) (w : World) (h : prod_Times.f a0_0 a0_1 a1 = some (r1, r2, r3)) :
  Calls Try.prog 76 #[.agg #[.int .u64 a0_0, .int .u64 a0_1], .int .u64 a1] w fun e w' => e = .returned (.agg #[.int .u64 r1, .int .u64 r2, .int .u64 r3]) ∧ Below w.heap.size w w' := by
 have hu34 := Try.underlying34
 have hu107 := Try.underlying107
 have HB := aaM (Below.refl w.heap.size w)
 have H : ((bits_Mul64.f a0_1 a1).bind fun bt196 => ((bits_Mul64.f a0_0 a1).bind fun bt198 => ((bits_Add64.f bt196.1 bt198.2 0).bind fun bt200 => (some (IntKind.u64.wrap (bt198.1 + bt200.2), bt200.1, bt196.2))))) = some (r1, r2, r3) := h
 clear h
 replace H := ooB.mp H
 obtain ⟨⟨t196, t197⟩, A30, H⟩ := H
 replace H : ((bits_Mul64.f a0_0 a1).bind fun bt198 => ((bits_Add64.f t196 bt198.2 0).bind fun bt200 => (some (IntKind.u64.wrap (bt198.1 + bt200.2), bt200.1, t197)))) = some (r1, r2, r3) := H
 have A3 := aaM A30
 clear A30
 replace H := ooB.mp H
 obtain ⟨⟨t198, t199⟩, A40, H⟩ := H
 replace H : ((bits_Add64.f t196 t199 0).bind fun bt200 => (some (IntKind.u64.wrap (t198 + bt200.2), bt200.1, t197))) = some (r1, r2, r3) := H
 have A4 := aaM A40
 clear A40
 replace H := ooB.mp H
 obtain ⟨⟨t200, t201⟩, A50, H⟩ := H
 replace H : (some (IntKind.u64.wrap (t198 + t201), t200, t197)) = some (r1, r2, r3) := H
 have A5 := aaM A50
 clear A50
 simp only [Option.some.injEq, Prod.mk.injEq] at H
 obtain ⟨rfl, rfl, rfl⟩ := H
 go_enter Try.func76, Try.ntmps76
 go_wp2_with (first | ((with_reducible refine gate_dst (N := 2) rfl ?_); refine bxF w HB 2 #[.int .u64 a0_0, .int .u64 a0_1] 34 ?_; intro gb194 hg w6 hb BK194 HB GE194; have GW194 := GE194; clear hb hg) | ((with_reducible refine gate_dst (N := 4) rfl ?_); refine bxF w HB 4 #[.int .u64 0, .int .u64 0, .int .u64 0] 107 ?_; intro gb195 hg w7 hb BK195 HB GE195; have GW195 := GE195; obtain ⟨NB194_195, NB195_194⟩ := nS hg BK194; replace BK194 := bY hb BK194; clear hb hg; have := NB194_195.out; have := NB195_194.out; obtain ⟨_, _, _, _⟩ := bE2 BK194.out) | ((with_reducible refine gate_callee (f := 86) rfl ?_); refine gL (some 14) Try.func86 #[.int .u64 a0_1, .int .u64 a1] ?_; (with_reducible refine (bits_Mul64.calls a0_1 a1 t196 t197 _ A3.out).mono ?_); rintro e w' ⟨rfl, ⟨nd, rfl⟩⟩; refine ⟨_, rfl, ?_⟩; (try (rw [drewN_self w7]; generalize hq_ : World.drewN w7 _ = w7; have n0_ : Aside0 (w7.heap[gb194]? = some (.cells #[.int .u64 a0_0, .int .u64 a0_1] 34 (0, 0))) := ⟨by rw [← hq_]; exact (bZ BK194)⟩; have n1_ : Aside0 (w7.heap[gb195]? = some (.cells #[.int .u64 0, .int .u64 0, .int .u64 0] 107 (0, 0))) := ⟨by rw [← hq_]; exact (bZ BK195)⟩; have n2_ : Aside0 (Below w.heap.size w w7) := ⟨by rw [← hq_]; exact (lB HB)⟩; clear BK194 BK195 HB hq_; have BK194 := n0_; have BK195 := n1_; have HB := n2_; clear n0_ n1_ n2_; obtain ⟨hcy194_0, hcy194_1, hfy194_0, hfy194_1⟩ := bE2 BK194.out; obtain ⟨hcy195_0, hcy195_1, hcy195_2, hfy195_0, hfy195_1, hfy195_2⟩ := bE3 BK195.out))) | ((with_reducible refine gate_callee (f := 86) rfl ?_); refine gL (some 21) Try.func86 #[.int .u64 a0_0, .int .u64 a1] ?_; (with_reducible refine (bits_Mul64.calls a0_0 a1 t198 t199 _ A4.out).mono ?_); rintro e w' ⟨rfl, ⟨nd, rfl⟩⟩; refine ⟨_, rfl, ?_⟩; (try (rw [drewN_self w7]; generalize hq_ : World.drewN w7 _ = w7; have n0_ : Aside0 (w7.heap[gb194]? = some (.cells #[.int .u64 a0_0, .int .u64 a0_1] 34 (0, 0))) := ⟨by rw [← hq_]; exact (bZ BK194)⟩; have n1_ : Aside0 (w7.heap[gb195]? = some (.cells #[.int .u64 0, .int .u64 0, .int .u64 0] 107 (0, 0))) := ⟨by rw [← hq_]; exact (bZ BK195)⟩; have n2_ : Aside0 (Below w.heap.size w w7) := ⟨by rw [← hq_]; exact (lB HB)⟩; clear BK194 BK195 HB hq_; have BK194 := n0_; have BK195 := n1_; have HB := n2_; clear n0_ n1_ n2_; obtain ⟨hcy194_0, hcy194_1, hfy194_0, hfy194_1⟩ := bE2 BK194.out; obtain ⟨hcy195_0, hcy195_1, hcy195_2, hfy195_0, hfy195_1, hfy195_2⟩ := bE3 BK195.out))) | ((with_reducible refine gate_callee (f := 75) rfl ?_); refine goesX_ (some 27) rfl rfl #[.int .u64 t196, .int .u64 t199, .int .u64 0] rfl mG ?_; (with_reducible refine (bits_Add64.calls t196 t199 0 t200 t201 _ A5.out).mono ?_); rintro e w' ⟨rfl, ⟨nd, rfl⟩⟩; refine ⟨_, rfl, ?_⟩; (try (rw [drewN_self w7]; generalize hq_ : World.drewN w7 _ = w7; have n0_ : Aside0 (w7.heap[gb194]? = some (.cells #[.int .u64 a0_0, .int .u64 a0_1] 34 (0, 0))) := ⟨by rw [← hq_]; exact (bZ BK194)⟩; have n1_ : Aside0 (w7.heap[gb195]? = some (.cells #[.int .u64 0, .int .u64 0, .int .u64 0] 107 (0, 0))) := ⟨by rw [← hq_]; exact (bZ BK195)⟩; have n2_ : Aside0 (Below w.heap.size w w7) := ⟨by rw [← hq_]; exact (lB HB)⟩; clear BK194 BK195 HB hq_; have BK194 := n0_; have BK195 := n1_; have HB := n2_; clear n0_ n1_ n2_; obtain ⟨hcy194_0, hcy194_1, hfy194_0, hfy194_1⟩ := bE2 BK194.out; obtain ⟨hcy195_0, hcy195_1, hcy195_2, hfy195_0, hfy195_1, hfy195_2⟩ := bE3 BK195.out)); obtain ⟨_, _, _, _, _, _⟩ := bE3 BK195.out))
 refine bodyPost_ret (results_cell_row rfl _ _ gb195 107 #[.int .u64 (IntKind.u64.wrap (t198 + t201)), .int .u64 t200, .int .u64 t197] (0, 0) _ rfl (bZ BK195) Try.underlying107 rfl (by kernel_rfl)) rfl ?_
 exact ⟨eE, lB HB⟩

/-! ### spread_side: function 57 -/
def spread_side.f (a0_0 : Int) (a0_1 : Int) (a0_2 : Int) (a1_0 : Int) (a1_1 : Int) (a1_2 : Int) : Option (Int × Int) := (prod_Square.f a0_1).bind fun bt205 => ((prod_Times.f bt205.1 bt205.2 (IntKind.u64.wrap (a1_0))).bind fun bt207 => (some (bt207.2.1, bt207.2.2)))
def spread_side.T1 : Bool × List (List Nat × List Nat) := (true, [([], []), ([0], [0]), ([1], [1]), ([], []), ([3], [3]), ([4], [4]), ([2, 5, 2], [2, 5]), ([], []), ([7, 6, 6, 0, 1, 2, 3, 4, 5, 6, 7], [6, 7])])
def spread_side.B1 : List Nat := [0, 1, 3, 0, 8, 24, 63, 0, 255]
theorem spread_side.tab1 : rtab .any (opsOf Try.f57 1) = spread_side.T1 := by kernel_rfl
theorem spread_side.bits1 : waitsOk spread_side.T1.2 spread_side.B1 = true := by kernel_rfl
set_option maxHeartbeats 8000000 in
set_option maxRecDepth 100000 in
theorem spread_side.calls (a0_0 : Int) (a0_1 : Int) (a0_2 : Int) (a1_0 : Int) (a1_1 : Int) (a1_2 : Int) (r1 : Int) (r2 : Int) (w : World) (h : spread_side.f a0_0 a0_1 a0_2 a1_0 a1_1 a1_2 = some (r1, r2)) :
  Calls Try.prog 57 #[.agg #[.int .i64 a0_0, .int .i64 a0_1, .int .i64 a0_2], .agg #[.int .i64 a1_0, .int .i64 a1_1, .int .i64 a1_2]] w fun e w' => e = .returned (.agg #[.int .u64 r1, .int .u64 r2]) ∧ Below w.heap.size w w' := by
 have hu26 := Try.underlying26
 have hu34 := Try.underlying34
 have hu107 := Try.underlying107
 have HB := aaM (Below.refl w.heap.size w)
 have H : ((prod_Square.f a0_1).bind fun bt205 => ((prod_Times.f bt205.1 bt205.2 (IntKind.u64.wrap (a1_0))).bind fun bt207 => (some (bt207.2.1, bt207.2.2)))) = some (r1, r2) := h
 clear h
 replace H := ooB.mp H
 obtain ⟨⟨t205, t206⟩, A30, H⟩ := H
 replace H : ((prod_Times.f t205 t206 (IntKind.u64.wrap (a1_0))).bind fun bt207 => (some (bt207.2.1, bt207.2.2))) = some (r1, r2) := H
 have A3 := aaM A30
 clear A30
 replace H := ooB.mp H
 obtain ⟨⟨t207, t208, t209⟩, A40, H⟩ := H
 replace H : (some (t208, t209)) = some (r1, r2) := H
 have A4 := aaM A40
 clear A40
 simp only [Option.some.injEq, Prod.mk.injEq] at H
 obtain ⟨rfl, rfl⟩ := H
 go_enter Try.func57, Try.ntmps57
 try go_wp2_with (first | ((with_reducible refine gate_dst (N := 2) rfl ?_); refine bxF w HB 2 #[.int .i64 a0_0, .int .i64 a0_1, .int .i64 a0_2] 26 ?_; intro gb202 hg w5 hb BK202 HB GE202; have GW202 := GE202; clear hb hg) | ((with_reducible refine gate_dst (N := 3) rfl ?_); refine bxF w HB 3 #[.int .i64 a1_0, .int .i64 a1_1, .int .i64 a1_2] 26 ?_; intro gb203 hg w6 hb BK203 HB GE203; have GW203 := GE203; obtain ⟨NB202_203, NB203_202⟩ := nS hg BK202; replace BK202 := bY hb BK202; clear hb hg) | ((with_reducible refine gate_dst (N := 4) rfl ?_); refine bxF w HB 4 #[.int .u64 0, .int .u64 0] 34 ?_; intro gb204 hg w7 hb BK204 HB GE204; have GW204 := GE204; obtain ⟨NB202_204, NB204_202⟩ := nS hg BK202; replace BK202 := bY hb BK202; obtain ⟨NB203_204, NB204_203⟩ := nS hg BK203; replace BK203 := bY hb BK203; clear hb hg))
 replace BK202 := aaM (bD BK202.out)
 replace BK203 := aaM (bD BK203.out)
 replace BK204 := aaM (bD BK204.out)
 replace HB := aaM (lD HB.out)
 refine start_ (n := 9) (S := fun w' => w'.cell? ⟨gb202, 0, none⟩ = some (.int .i64 a0_0) ∧ w'.cell? ⟨gb202, 1, none⟩ = some (.int .i64 a0_1) ∧ w'.cell? ⟨gb202, 2, none⟩ = some (.int .i64 a0_2) ∧ w'.cell? ⟨gb203, 0, none⟩ = some (.int .i64 a1_0) ∧ w'.cell? ⟨gb203, 1, none⟩ = some (.int .i64 a1_1) ∧ w'.cell? ⟨gb203, 2, none⟩ = some (.int .i64 a1_2)) (ds := []) _ (by kernel_rfl) rfl rfl hD (fun hHeld => ?_); refine with_tabW spread_side.tab1 spread_side.bits1 (fun HT_ HW_ => ?_)
 generalize w7.drew = w8 at BK202 BK203 BK204 HB hHeld ⊢
 refine pU 0 6 (qB 9 1) HT_ ?_
 refine pU 3 9 (qB 9 9) HT_ ?_
 refine tU 1 7 (qB 9 11) HT_ HW_ hHeld ?_
 refine tU 4 10 (qB 9 27) HT_ HW_ hHeld ?_
 refine pU 5 11 (qB 9 59) HT_ ?_
 refine join_ (σ := Nat) 1 (qB 9 255) (fun s_ => [(8, .agg #[.int .u64 t205, .int .u64 t206]), (12, .agg #[.int .u64 t207, .int .u64 t208, .int .u64 t209]), (5, .pointer (some ⟨s_, 0, none⟩))]) (fun s_ w' => (w'.cell? ⟨gb202, 0, none⟩ = some (.int .i64 a0_0) ∧ w'.cell? ⟨gb202, 1, none⟩ = some (.int .i64 a0_1) ∧ w'.cell? ⟨gb202, 2, none⟩ = some (.int .i64 a0_2) ∧ w'.cell? ⟨gb203, 0, none⟩ = some (.int .i64 a1_0) ∧ w'.cell? ⟨gb203, 1, none⟩ = some (.int .i64 a1_1) ∧ w'.cell? ⟨gb203, 2, none⟩ = some (.int .i64 a1_2)) ∧ (w'.heap[gb202]? = some (.cells #[.int .i64 a0_0, .int .i64 a0_1, .int .i64 a0_2] 26 (0, 0))) ∧ (w'.heap[gb203]? = some (.cells #[.int .i64 a1_0, .int .i64 a1_1, .int .i64 a1_2] 26 (0, 0))) ∧ (w'.heap[gb204]? = some (.cells #[.int .u64 0, .int .u64 0] 34 (0, 0))) ∧ (w'.heap[s_]? = some (.cells #[.int .u64 0, .int .u64 0, .int .u64 0] 107 (0, 0))) ∧ (w.heap.size ≤ s_) ∧ (w.heap.size ≤ s_) ∧ (gb202 ≠ s_) ∧ (s_ ≠ gb202) ∧ (gb203 ≠ s_) ∧ (s_ ≠ gb203) ∧ (gb204 ≠ s_) ∧ (s_ ≠ gb204) ∧ (Below w.heap.size w w')) ?_ ?_
 rotate_left
 ·intro hCont
  refine two_ (i := 2) (j := 7) (Ni := some 8) (Nj := some 5) (qB 9 63) (qB 9 187) rfl rfl rfl rfl (two_of HT_.out (by kernel_rfl)) (by decide) (by decide) (fun K hK => ?_) (fun K hK => ?_)
  ·skip
   refine gU Try.func46 #[.int .i64 a0_1] ?_; (with_reducible refine (prod_Square.calls a0_1 t205 t206 _ A3.out).mono ?_); rintro e w9 ⟨rfl, hb⟩; refine ⟨_, rfl, ?_⟩; replace BK202 := bY hb BK202; replace BK203 := bY hb BK203; replace BK204 := bY hb BK204; replace HB := aaM (lP (lB HB) hb); (try clear hb); (try clear hb2); (try clear hk); (try clear hi); refine hK.out _ _ hD (fun hHeld => ?_); clear hK K; refine nU 8 ?_
   refine two_ (i := 6) (j := 7) (Ni := some 12) (Nj := some 5) (qB 9 127) (qB 9 191) rfl rfl rfl rfl (two_of HT_.out (by kernel_rfl)) (by decide) (by decide) (fun K hK => ?_) (fun K hK => ?_)
   ·skip
    refine gU Try.func76 #[.agg #[.int .u64 t205, .int .u64 t206], .int .u64 (IntKind.u64.wrap (a1_0))] ?_; (with_reducible refine (prod_Times.calls t205 t206 (IntKind.u64.wrap (a1_0)) t207 t208 t209 _ A4.out).mono ?_); rintro e w10 ⟨rfl, hb⟩; refine ⟨_, rfl, ?_⟩; replace BK202 := bY hb BK202; replace BK203 := bY hb BK203; replace BK204 := bY hb BK204; replace HB := aaM (lP (lB HB) hb); (try clear hb); (try clear hb2); (try clear hk); (try clear hi); refine hK.out _ _ hD (fun hHeld => ?_); clear hK K; refine nU 12 ?_
    refine oU 7 (some 5) (qB 9 255) HT_ (fun K hK => ?_); refine box_step ?hg (N := 5) ?hd (cs := #[.int .u64 0, .int .u64 0, .int .u64 0]) (t := 107) ?hr ?_; (case hd => rfl); (case hg => rfl); (case hr => first | (go_simp; done) | (go_simp; rfl)); intro gb210 hg w11 hbox hb; have hP_ := lQ (lB HB) hb; replace HB := aaM hP_.1; have BK210 := aaM (hbox); have GW210 := aaM (gQ hg hP_.2); have GE210 := aaM (gQ hg hP_.2); obtain ⟨NB202_210, NB210_202⟩ := nS hg BK202; replace BK202 := bY hb BK202; obtain ⟨NB203_210, NB210_203⟩ := nS hg BK203; replace BK203 := bY hb BK203; obtain ⟨NB204_210, NB210_204⟩ := nS hg BK204; replace BK204 := bY hb BK204; clear hb hbox hg hP_; refine hK.out _ _ hD (fun hHeld => ?_); clear hK K; refine nU 5 ?_
    exact norm_ (by simp only [putAll, Act.put, ssB, ssZ, ssS]) (hCont (gb210) _ ⟨hHeld, (bZ BK202), (bZ BK203), (bZ BK204), (bZ BK210), GW210.out, GE210.out, NB202_210.out, NB210_202.out, NB203_210.out, NB210_203.out, NB204_210.out, NB210_204.out, (lB HB)⟩)
   ·skip
    refine box_step ?hg (N := 5) ?hd (cs := #[.int .u64 0, .int .u64 0, .int .u64 0]) (t := 107) ?hr ?_; (case hd => rfl); (case hg => rfl); (case hr => first | (go_simp; done) | (go_simp; rfl)); intro gb210 hg w10 hbox hb; have hP_ := lQ (lB HB) hb; replace HB := aaM hP_.1; have BK210 := aaM (hbox); have GW210 := aaM (gQ hg hP_.2); have GE210 := aaM (gQ hg hP_.2); obtain ⟨NB202_210, NB210_202⟩ := nS hg BK202; replace BK202 := bY hb BK202; obtain ⟨NB203_210, NB210_203⟩ := nS hg BK203; replace BK203 := bY hb BK203; obtain ⟨NB204_210, NB210_204⟩ := nS hg BK204; replace BK204 := bY hb BK204; clear hb hbox hg hP_; refine hK.out _ _ hD (fun hHeld => ?_); clear hK K; refine nU 5 ?_
    refine oU 6 (some 12) (qB 9 255) HT_ (fun K hK => ?_); refine gU Try.func76 #[.agg #[.int .u64 t205, .int .u64 t206], .int .u64 (IntKind.u64.wrap (a1_0))] ?_; (with_reducible refine (prod_Times.calls t205 t206 (IntKind.u64.wrap (a1_0)) t207 t208 t209 _ A4.out).mono ?_); rintro e w11 ⟨rfl, hb⟩; refine ⟨_, rfl, ?_⟩; replace BK202 := bY hb BK202; replace BK203 := bY hb BK203; replace BK204 := bY hb BK204; replace BK210 := bY hb BK210; replace HB := aaM (lP (lB HB) hb); (try clear hb); (try clear hb2); (try clear hk); (try clear hi); refine hK.out _ _ hD (fun hHeld => ?_); clear hK K; refine nU 12 ?_
    exact norm_ (by simp only [putAll, Act.put, ssB, ssZ, ssS]) (hCont (gb210) _ ⟨hHeld, (bZ BK202), (bZ BK203), (bZ BK204), (bZ BK210), GW210.out, GE210.out, NB202_210.out, NB210_202.out, NB203_210.out, NB210_203.out, NB204_210.out, NB210_204.out, (lB HB)⟩)
  ·skip
   refine box_step ?hg (N := 5) ?hd (cs := #[.int .u64 0, .int .u64 0, .int .u64 0]) (t := 107) ?hr ?_; (case hd => rfl); (case hg => rfl); (case hr => first | (go_simp; done) | (go_simp; rfl)); intro gb210 hg w9 hbox hb; have hP_ := lQ (lB HB) hb; replace HB := aaM hP_.1; have BK210 := aaM (hbox); have GW210 := aaM (gQ hg hP_.2); have GE210 := aaM (gQ hg hP_.2); obtain ⟨NB202_210, NB210_202⟩ := nS hg BK202; replace BK202 := bY hb BK202; obtain ⟨NB203_210, NB210_203⟩ := nS hg BK203; replace BK203 := bY hb BK203; obtain ⟨NB204_210, NB210_204⟩ := nS hg BK204; replace BK204 := bY hb BK204; clear hb hbox hg hP_; refine hK.out _ _ hD (fun hHeld => ?_); clear hK K; refine nU 5 ?_
   refine oU 2 (some 8) (qB 9 191) HT_ (fun K hK => ?_); refine gU Try.func46 #[.int .i64 a0_1] ?_; (with_reducible refine (prod_Square.calls a0_1 t205 t206 _ A3.out).mono ?_); rintro e w10 ⟨rfl, hb⟩; refine ⟨_, rfl, ?_⟩; replace BK202 := bY hb BK202; replace BK203 := bY hb BK203; replace BK204 := bY hb BK204; replace BK210 := bY hb BK210; replace HB := aaM (lP (lB HB) hb); (try clear hb); (try clear hb2); (try clear hk); (try clear hi); refine hK.out _ _ hD (fun hHeld => ?_); clear hK K; refine nU 8 ?_
   refine oU 6 (some 12) (qB 9 255) HT_ (fun K hK => ?_); refine gU Try.func76 #[.agg #[.int .u64 t205, .int .u64 t206], .int .u64 (IntKind.u64.wrap (a1_0))] ?_; (with_reducible refine (prod_Times.calls t205 t206 (IntKind.u64.wrap (a1_0)) t207 t208 t209 _ A4.out).mono ?_); rintro e w11 ⟨rfl, hb⟩; refine ⟨_, rfl, ?_⟩; replace BK202 := bY hb BK202; replace BK203 := bY hb BK203; replace BK204 := bY hb BK204; replace BK210 := bY hb BK210; replace HB := aaM (lP (lB HB) hb); (try clear hb); (try clear hb2); (try clear hk); (try clear hi); refine hK.out _ _ hD (fun hHeld => ?_); clear hK K; refine nU 12 ?_
   exact norm_ (by simp only [putAll, Act.put, ssB, ssZ, ssS]) (hCont (gb210) _ ⟨hHeld, (bZ BK202), (bZ BK203), (bZ BK204), (bZ BK210), GW210.out, GE210.out, NB202_210.out, NB210_202.out, NB203_210.out, NB210_203.out, NB204_210.out, NB210_204.out, (lB HB)⟩)
 rintro gb210 w12 ⟨hS_, h0_, h1_, h2_, h3_, h4_, h5_, h6_, h7_, h8_, h9_, h10_, h11_, h12_⟩
 have n0_ : Aside0 (w12.heap[gb202]? = some (.cells #[.int .i64 a0_0, .int .i64 a0_1, .int .i64 a0_2] 26 (0, 0))) := ⟨h0_⟩
 have n1_ : Aside0 (w12.heap[gb203]? = some (.cells #[.int .i64 a1_0, .int .i64 a1_1, .int .i64 a1_2] 26 (0, 0))) := ⟨h1_⟩
 have n2_ : Aside0 (w12.heap[gb204]? = some (.cells #[.int .u64 0, .int .u64 0] 34 (0, 0))) := ⟨h2_⟩
 have n3_ : Aside0 (w12.heap[gb210]? = some (.cells #[.int .u64 0, .int .u64 0, .int .u64 0] 107 (0, 0))) := ⟨h3_⟩
 have n4_ : Aside0 (w.heap.size ≤ gb210) := ⟨h4_⟩
 have n5_ : Aside0 (w.heap.size ≤ gb210) := ⟨h5_⟩
 have n6_ : Aside0 (gb202 ≠ gb210) := ⟨h6_⟩
 have n7_ : Aside0 (gb210 ≠ gb202) := ⟨h7_⟩
 have n8_ : Aside0 (gb203 ≠ gb210) := ⟨h8_⟩
 have n9_ : Aside0 (gb210 ≠ gb203) := ⟨h9_⟩
 have n10_ : Aside0 (gb204 ≠ gb210) := ⟨h10_⟩
 have n11_ : Aside0 (gb210 ≠ gb204) := ⟨h11_⟩
 have n12_ : Aside0 (Below w.heap.size w w12) := ⟨h12_⟩
 clear BK202 BK203 BK204 HB h0_ h1_ h2_ h3_ h4_ h5_ h6_ h7_ h8_ h9_ h10_ h11_ h12_
 have BK202 := n0_
 have BK203 := n1_
 have BK204 := n2_
 have BK210 := n3_
 have GW210 := n4_
 have GE210 := n5_
 have NB202_210 := n6_
 have NB210_202 := n7_
 have NB203_210 := n8_
 have NB210_203 := n9_
 have NB204_210 := n10_
 have NB210_204 := n11_
 have HB := n12_
 clear n0_ n1_ n2_ n3_ n4_ n5_ n6_ n7_ n8_ n9_ n10_ n11_ n12_
 have hHeld : w12.cell? ⟨gb202, 0, none⟩ = some (.int .i64 a0_0) ∧ w12.cell? ⟨gb202, 1, none⟩ = some (.int .i64 a0_1) ∧ w12.cell? ⟨gb202, 2, none⟩ = some (.int .i64 a0_2) ∧ w12.cell? ⟨gb203, 0, none⟩ = some (.int .i64 a1_0) ∧ w12.cell? ⟨gb203, 1, none⟩ = some (.int .i64 a1_1) ∧ w12.cell? ⟨gb203, 2, none⟩ = some (.int .i64 a1_2) := hS_
 refine norm_ (a' := ?_) ?_ ?_
 rotate_left
 ·simp only [putAll, Act.put, ssB, ssZ, ssS]
  rfl
 refine oU 8 none (qB 9 511) HT_ (fun K hK => ?_)
 obtain ⟨hs13, -, -, hfs13, -, -⟩ := bE3 BK210.out
 have := NB202_210.out
 have := NB203_210.out
 have := NB204_210.out
 have := NB210_202.out
 have := NB210_203.out
 have := NB210_204.out
 obtain ⟨-, hs14, -, -, hfs14, -⟩ := bE3 BK210.out
 have := NB202_210.out
 have := NB203_210.out
 have := NB204_210.out
 have := NB210_202.out
 have := NB210_203.out
 have := NB210_204.out
 obtain ⟨-, -, hs15, -, -, hfs15⟩ := bE3 BK210.out
 have := NB202_210.out
 have := NB203_210.out
 have := NB204_210.out
 have := NB210_202.out
 have := NB210_203.out
 have := NB210_204.out
 refine skip_ (w1 := ?_) (by rfl) rfl ?_ ?_
 rotate_left
 ·go_simp
  rfl
 refine hK.out _ _ (cH hHeld) (fun hHeld => ?_)
 clear hK K
 refine done_ (done_of HT_.out (by kernel_rfl)) ?_
 have := NB210_202.out
 have := NB202_210.out
 have := NB210_203.out
 have := NB203_210.out
 have := NB210_204.out
 have := NB204_210.out
 obtain ⟨_, _, _, _, _, _⟩ := bE3 BK210.out
 have := NB204_202.out
 have := NB202_204.out
 have := NB204_203.out
 have := NB203_204.out
 obtain ⟨_, _, _, _⟩ := bE2 BK204.out
 try go_wp2
 refine bodyPost_ret (results_cell_row rfl _ _ gb204 34 #[.int .u64 t208, .int .u64 t209] (0, 0) _ rfl (bZ BK204) Try.underlying34 rfl (by kernel_rfl)) rfl ?_
 exact ⟨eE, lB HB⟩

/-! ### spread_Score: function 26 -/
def spread_Score.j0 : Nat → Bool → Int → Int → Int → Int → Int → Int → Option (Int × Int × Int)
 | 0, _, _, _, _, _, _, _ => none
 | k + 1, x14, x212000, x212001, x212002, x213000, x213001, x213002 => if x14 = true then (some (0, 0, 0)) else ((spread_side.f x212000 x212001 x212002 x213000 x213001 x213002).bind fun bt216 => ((spread_side.f x213000 x213001 x213002 x212000 x212001 x212002).bind fun bt218 => ((prod_Add.f bt216.1 bt216.2 bt218.1 bt218.2).bind fun bt220 => (some (bt220.1, bt220.2.1, IntKind.u64.wrap ((IntKind.u64.wrap (x212000)) * (IntKind.u64.wrap (x213000))))))))
def spread_Score.f (k : Nat) (a0_0 : Int) (a0_1 : Int) (a0_2 : Int) (a1_0 : Int) (a1_1 : Int) (a1_2 : Int) : Option (Int × Int × Int) := (spread_there.f k a0_0 a0_1 a0_2).bind fun t214 => (if t214 = true then ((spread_there.f k a1_0 a1_1 a1_2).bind fun t215 => (spread_Score.j0 k (!t215) a0_0 a0_1 a0_2 a1_0 a1_1 a1_2)) else (spread_Score.j0 k true a0_0 a0_1 a0_2 a1_0 a1_1 a1_2))
theorem spread_Score.mono_l : ∀ k, (∀ y0 y1 y2 y3 y4 y5 y6, LeO (spread_Score.j0 k y0 y1 y2 y3 y4 y5 y6) (spread_Score.j0 (k + 1) y0 y1 y2 y3 y4 y5 y6))
 | 0 => fun _ _ _ _ _ _ _ r h => by simp [spread_Score.j0] at h
 | k + 1 => by
  have ih0 := spread_Score.mono_l k
  ·intro y0 y1 y2 y3 y4 y5 y6
   unfold spread_Score.j0
   repeat' first
   | (with_reducible exact ih0 _ _ _ _ _ _ _)
   | (with_reducible exact spread_there.mono _ _ _ _)
   | (with_reducible exact LeO.refl _)
   | (with_reducible exact LeO.none _)
   | (with_reducible refine LeO.ite ?_ ?_)
   | (with_reducible refine LeO.bind ?_ (fun _ => ?_))
   | exact ih0 _ _ _ _ _ _ _
   | exact spread_there.mono _ _ _ _
   | exact LeO.none _
   | refine LeO.ite ?_ ?_
   | refine LeO.bind ?_ (fun _ => ?_)
theorem spread_Score.mono : ∀ a0 a1 a2 a3 a4 a5 k, LeO (spread_Score.f k a0 a1 a2 a3 a4 a5) (spread_Score.f (k + 1) a0 a1 a2 a3 a4 a5) := by
 intro a0 a1 a2 a3 a4 a5 k
 have ih0 := spread_Score.mono_l k
 unfold spread_Score.f
 repeat' first
   | (with_reducible exact ih0 _ _ _ _ _ _ _)
   | (with_reducible exact spread_there.mono _ _ _ _)
   | (with_reducible exact LeO.refl _)
   | (with_reducible exact LeO.none _)
   | (with_reducible refine LeO.ite ?_ ?_)
   | (with_reducible refine LeO.bind ?_ (fun _ => ?_))
   | exact ih0 _ _ _ _ _ _ _
   | exact spread_there.mono _ _ _ _
   | exact LeO.none _
   | refine LeO.ite ?_ ?_
   | refine LeO.bind ?_ (fun _ => ?_)
def spread_Score.T3 : Bool × List (List Nat × List Nat) := (true, [([], []), ([], []), ([0, 1], [0, 1]), ([], []), ([], []), ([3, 4, 2], [3, 4]), ([2, 5, 5], [2, 5]), ([6], [6]), ([7], [7]), ([7], [7]), ([], []), ([10, 8, 6, 0, 1, 2, 3, 4, 5, 6, 7, 8, 10], [8, 10]), ([9, 11, 0, 1, 2, 3, 4, 5, 6, 7, 8, 9, 10, 11], [9])])
def spread_Score.B3 : List Nat := [0, 0, 3, 0, 0, 31, 63, 127, 255, 255, 0, 1535, 4095]
theorem spread_Score.tab3 : rtab .any (opsOf Try.f26 3) = spread_Score.T3 := by kernel_rfl
theorem spread_Score.bits3 : waitsOk spread_Score.T3.2 spread_Score.B3 = true := by kernel_rfl
set_option maxHeartbeats 8000000 in
set_option maxRecDepth 100000 in
theorem spread_Score.calls (k : Nat) (a0_0 : Int) (a0_1 : Int) (a0_2 : Int) (a1_0 : Int) (a1_1 : Int) (a1_2 : Int) (r1 : Int) (r2 : Int) (r3 : Int) (w : World) (h : spread_Score.f k a0_0 a0_1 a0_2 a1_0 a1_1 a1_2 = some (r1, r2, r3)) :
  Calls Try.prog 26 #[.agg #[.int .i64 a0_0, .int .i64 a0_1, .int .i64 a0_2], .agg #[.int .i64 a1_0, .int .i64 a1_1, .int .i64 a1_2]] w fun e w' => e = .returned (.agg #[.int .u64 r1, .int .u64 r2, .int .u64 r3]) ∧ Below w.heap.size w w' := by
 have hu26 := Try.underlying26
 have hu36 := Try.underlying36
 have hu34 := Try.underlying34
 have HB := aaM (Below.refl w.heap.size w)
 have H : ((spread_there.f k a0_0 a0_1 a0_2).bind fun t214 => (if t214 = true then ((spread_there.f k a1_0 a1_1 a1_2).bind fun t215 => (spread_Score.j0 k (!t215) a0_0 a0_1 a0_2 a1_0 a1_1 a1_2)) else (spread_Score.j0 k true a0_0 a0_1 a0_2 a1_0 a1_1 a1_2))) = some (r1, r2, r3) := h
 clear h
 have HC3 := aaM H
 clear H
 go_enter Try.func26, Try.ntmps26
 go_upto_region 1 with (first | ((with_reducible refine gate_dst (N := 2) rfl ?_); refine bxF w HB 2 #[.int .i64 a0_0, .int .i64 a0_1, .int .i64 a0_2] 26 ?_; intro gb211 hg w4 hb BK211 HB GE211; have GW211 := GE211; clear hb hg) | ((with_reducible refine gate_dst (N := 3) rfl ?_); refine bxF w HB 3 #[.int .i64 a1_0, .int .i64 a1_1, .int .i64 a1_2] 26 ?_; intro gb212 hg w5 hb BK212 HB GE212; have GW212 := GE212; obtain ⟨NB211_212, NB212_211⟩ := nS hg BK211; replace BK211 := bY hb BK211; clear hb hg) | ((with_reducible refine gate_dst (N := 4) rfl ?_); refine bxF w HB 4 #[.int .u64 0, .int .u64 0, .int .u64 0] 36 ?_; intro gb213 hg w6 hb BK213 HB GE213; have GW213 := GE213; obtain ⟨NB211_213, NB213_211⟩ := nS hg BK211; replace BK211 := bY hb BK211; obtain ⟨NB212_213, NB213_212⟩ := nS hg BK212; replace BK212 := bY hb BK212; clear hb hg))
 (try simp only [Act.put, ssB, ssZ, ssS])
 go_cut [14] (fun v14 wc => ∃ (kq : Nat) (x14_2 : Bool), v14 = .bool x14_2 ∧ Aside0 (spread_Score.j0 kq x14_2 a0_0 a0_1 a0_2 a1_0 a1_1 a1_2 = some (r1, r2, r3)) ∧ Aside0 (kq ≤ k) ∧ Aside0 (wc.heap[gb211]? = some (.cells #[.int .i64 a0_0, .int .i64 a0_1, .int .i64 a0_2] 26 (0, 0))) ∧ Aside0 (wc.heap[gb212]? = some (.cells #[.int .i64 a1_0, .int .i64 a1_1, .int .i64 a1_2] 26 (0, 0))) ∧ Aside0 (wc.heap[gb213]? = some (.cells #[.int .u64 0, .int .u64 0, .int .u64 0] 36 (0, 0))) ∧ Aside0 (Below w.heap.size w wc))
 case first =>
  have H := HC3.out; clear HC3; replace H := ooB.mp H; obtain ⟨t214, A70, H⟩ := H; replace H : (if t214 = true then ((spread_there.f k a1_0 a1_1 a1_2).bind fun t215 => (spread_Score.j0 k (!t215) a0_0 a0_1 a0_2 a1_0 a1_1 a1_2)) else (spread_Score.j0 k true a0_0 a0_1 a0_2 a1_0 a1_1 a1_2)) = some (r1, r2, r3) := H; have A7 := aaM A70; clear A70
  by_cases c8 : t214 = true
  ·subst c8
   have H1 : ((spread_there.f k a1_0 a1_1 a1_2).bind fun t215 => (spread_Score.j0 k (!t215) a0_0 a0_1 a0_2 a1_0 a1_1 a1_2)) = some (r1, r2, r3) := by rw [if_pos rfl] at H; exact H
   clear H; have H := H1; clear H1; replace H := ooB.mp H; obtain ⟨t215, A90, H⟩ := H; replace H : (spread_Score.j0 k (!t215) a0_0 a0_1 a0_2 a1_0 a1_1 a1_2) = some (r1, r2, r3) := H; have A9 := aaM A90; clear A90; have H' := aaM H; clear H; have := NB211_212.out; have := NB212_211.out; have := NB211_213.out; have := NB213_211.out; obtain ⟨hcz12_0, hcz12_1, hcz12_2, hfz12_0, hfz12_1, hfz12_2⟩ := bE3 BK211.out
   go_wp2_with (first | ((with_reducible refine gate_callee (f := 42) rfl ?_); refine gL (some 8) Try.func42 #[.agg #[.int .i64 a0_0, .int .i64 a0_1, .int .i64 a0_2]] ?_; (with_reducible refine (spread_there.calls k a0_0 a0_1 a0_2 true _ A7.out).mono ?_); rintro e w13 ⟨rfl, hb⟩; refine ⟨_, rfl, ?_⟩; replace BK211 := bY hb BK211; replace BK212 := bY hb BK212; replace BK213 := bY hb BK213; replace HB := aaM (lP (lB HB) hb); (try clear hb); (try clear hb2); (try clear hk); (try clear hi); have := NB212_213.out; have := NB213_212.out; obtain ⟨hcz15_0, hcz15_1, hcz15_2, hfz15_0, hfz15_1, hfz15_2⟩ := bE3 BK212.out) | (go_at_call 42; (with_reducible refine (spread_there.calls k a1_0 a1_1 a1_2 t215 _ A9.out).mono ?_); rintro e w16 ⟨rfl, hb⟩; replace BK211 := bY hb BK211; replace BK212 := bY hb BK212; replace BK213 := bY hb BK213; replace HB := aaM (lP (lB HB) hb); (try clear hb); (try clear hb2); (try clear hk); (try clear hi)))
   go_meet
   case rel => exact ⟨_, (!t215), (eF), H', ⟨by first | omega | exact Nat.le_refl _⟩, ⟨bZ BK211⟩, ⟨bZ BK212⟩, ⟨bZ BK213⟩, ⟨lB HB⟩⟩
  ·replace c8 := Bool.eq_false_iff.mpr c8
   subst c8
   have H1 : (spread_Score.j0 k true a0_0 a0_1 a0_2 a1_0 a1_1 a1_2) = some (r1, r2, r3) := by rw [if_neg (show ¬ (false = true) by decide)] at H; exact H
   clear H; have H := H1; clear H1; have H' := aaM H; clear H; have := NB211_212.out; have := NB212_211.out; have := NB211_213.out; have := NB213_211.out; obtain ⟨hcz19_0, hcz19_1, hcz19_2, hfz19_0, hfz19_1, hfz19_2⟩ := bE3 BK211.out
   go_wp2_with (first | ((with_reducible refine gate_callee (f := 42) rfl ?_); refine gL (some 8) Try.func42 #[.agg #[.int .i64 a0_0, .int .i64 a0_1, .int .i64 a0_2]] ?_; (with_reducible refine (spread_there.calls k a0_0 a0_1 a0_2 false _ A7.out).mono ?_); rintro e w20 ⟨rfl, hb⟩; refine ⟨_, rfl, ?_⟩; replace BK211 := bY hb BK211; replace BK212 := bY hb BK212; replace BK213 := bY hb BK213; replace HB := aaM (lP (lB HB) hb); (try clear hb); (try clear hb2); (try clear hk); (try clear hi)))
   go_meet
   case rel => exact ⟨_, (true), (eF), H', ⟨by first | omega | exact Nat.le_refl _⟩, ⟨bZ BK211⟩, ⟨bZ BK212⟩, ⟨bZ BK213⟩, ⟨lB HB⟩⟩
 case rest =>
  clear HC3; (try clear c1); (try clear c2); (try clear p2); (try clear c4); (try clear c8); (try clear c10); (try clear c11); (try clear c14); (try clear c17); (try clear c18); (try clear hcz12_0); (try clear hcz12_1); (try clear hcz12_2); (try clear hcz15_0); (try clear hcz15_1); (try clear hcz15_2); (try clear hcz19_0); (try clear hcz19_1); (try clear hcz19_2); (try clear hfz12_0); (try clear hfz12_1); (try clear hfz12_2); (try clear hfz15_0); (try clear hfz15_1); (try clear hfz15_2); (try clear hfz19_0); (try clear hfz19_1); (try clear hfz19_2); obtain ⟨kq, x14_2, rfl, HA, HJ2, BK211, BK212, BK213, HB⟩ := hcut
  cases kq with
  | zero => exact absurd HA.out (by simp [spread_Score.j0])
  | succ kj2 =>
   have H := HA.out; clear HA; simp only [spread_Score.j0] at H
   by_cases c21 : x14_2 = true
   ·subst c21
    have H1 : (some (0, 0, 0)) = some (r1, r2, r3) := by rw [if_pos rfl] at H; exact H
    clear H; have H := H1; clear H1; simp only [Option.some.injEq, Prod.mk.injEq] at H; obtain ⟨rfl, rfl, rfl⟩ := H; have := NB213_211.out; have := NB211_213.out; have := NB213_212.out; have := NB212_213.out; obtain ⟨_, _, _, _, _, _⟩ := bE3 BK213.out; go_wp2; refine bodyPost_ret (results_cell_row rfl _ _ gb213 36 #[.int .u64 0, .int .u64 0, .int .u64 0] (0, 0) _ rfl (bZ BK213) Try.underlying36 rfl (by kernel_rfl)) rfl ?_
    exact ⟨eE, lB HB⟩
   ·replace c21 := Bool.eq_false_iff.mpr c21
    subst c21
    have H1 : ((spread_side.f a0_0 a0_1 a0_2 a1_0 a1_1 a1_2).bind fun bt216 => ((spread_side.f a1_0 a1_1 a1_2 a0_0 a0_1 a0_2).bind fun bt218 => ((prod_Add.f bt216.1 bt216.2 bt218.1 bt218.2).bind fun bt220 => (some (bt220.1, bt220.2.1, IntKind.u64.wrap ((IntKind.u64.wrap (a0_0)) * (IntKind.u64.wrap (a1_0)))))))) = some (r1, r2, r3) := by rw [if_neg (show ¬ (false = true) by decide)] at H; exact H
    clear H; have H := H1; clear H1; replace H := ooB.mp H; obtain ⟨⟨t216, t217⟩, A250, H⟩ := H; replace H : ((spread_side.f a1_0 a1_1 a1_2 a0_0 a0_1 a0_2).bind fun bt218 => ((prod_Add.f t216 t217 bt218.1 bt218.2).bind fun bt220 => (some (bt220.1, bt220.2.1, IntKind.u64.wrap ((IntKind.u64.wrap (a0_0)) * (IntKind.u64.wrap (a1_0))))))) = some (r1, r2, r3) := H; have A25 := aaM A250; clear A250; replace H := ooB.mp H; obtain ⟨⟨t218, t219⟩, A260, H⟩ := H; replace H : ((prod_Add.f t216 t217 t218 t219).bind fun bt220 => (some (bt220.1, bt220.2.1, IntKind.u64.wrap ((IntKind.u64.wrap (a0_0)) * (IntKind.u64.wrap (a1_0)))))) = some (r1, r2, r3) := H; have A26 := aaM A260; clear A260; replace H := ooB.mp H; obtain ⟨⟨t220, t221, t222⟩, A270, H⟩ := H; replace H : (some (t220, t221, IntKind.u64.wrap ((IntKind.u64.wrap (a0_0)) * (IntKind.u64.wrap (a1_0))))) = some (r1, r2, r3) := H; have A27 := aaM A270; clear A270; simp only [Option.some.injEq, Prod.mk.injEq] at H; obtain ⟨rfl, rfl, rfl⟩ := H; (try go_wp2); replace BK211 := aaM (bD BK211.out); replace BK212 := aaM (bD BK212.out); replace BK213 := aaM (bD BK213.out); replace HB := aaM (lD HB.out); refine start_ (n := 13) (S := fun w' => w'.cell? ⟨gb211, 0, none⟩ = some (.int .i64 a0_0) ∧ w'.cell? ⟨gb211, 1, none⟩ = some (.int .i64 a0_1) ∧ w'.cell? ⟨gb211, 2, none⟩ = some (.int .i64 a0_2) ∧ w'.cell? ⟨gb212, 0, none⟩ = some (.int .i64 a1_0) ∧ w'.cell? ⟨gb212, 1, none⟩ = some (.int .i64 a1_1) ∧ w'.cell? ⟨gb212, 2, none⟩ = some (.int .i64 a1_2)) (ds := []) _ (by kernel_rfl) rfl rfl hD (fun hHeld => ?_); refine with_tabW spread_Score.tab3 spread_Score.bits3 (fun HT_ HW_ => ?_); generalize wc.drew = w28 at BK211 BK212 BK213 HB hHeld ⊢; refine tU 0 17 (qB 13 1) HT_ HW_ hHeld ?_
    refine tU 1 18 (qB 13 3) HT_ HW_ hHeld ?_
    refine tU 3 20 (qB 13 11) HT_ HW_ hHeld ?_
    refine tU 4 21 (qB 13 27) HT_ HW_ hHeld ?_
    refine join_ (σ := Nat) 2 (qB 13 2047) (fun s_ => [(19, .agg #[.int .u64 t216, .int .u64 t217]), (22, .agg #[.int .u64 t218, .int .u64 t219]), (23, .tuple #[.agg #[.int .u64 t220, .int .u64 t221], .int .i64 t222]), (5, .pointer (some ⟨s_, 0, none⟩)), (16, .tuple #[.agg #[.int .u64 t220, .int .u64 t221], .int .i64 t222]), (24, .agg #[.int .u64 t220, .int .u64 t221]), (25, .int .i64 t222)]) (fun s_ w' => (w'.cell? ⟨gb211, 0, none⟩ = some (.int .i64 a0_0) ∧ w'.cell? ⟨gb211, 1, none⟩ = some (.int .i64 a0_1) ∧ w'.cell? ⟨gb211, 2, none⟩ = some (.int .i64 a0_2) ∧ w'.cell? ⟨gb212, 0, none⟩ = some (.int .i64 a1_0) ∧ w'.cell? ⟨gb212, 1, none⟩ = some (.int .i64 a1_1) ∧ w'.cell? ⟨gb212, 2, none⟩ = some (.int .i64 a1_2)) ∧ (w'.heap[gb211]? = some (.cells #[.int .i64 a0_0, .int .i64 a0_1, .int .i64 a0_2] 26 (0, 0))) ∧ (w'.heap[gb212]? = some (.cells #[.int .i64 a1_0, .int .i64 a1_1, .int .i64 a1_2] 26 (0, 0))) ∧ (w'.heap[gb213]? = some (.cells #[.int .u64 0, .int .u64 0, .int .u64 0] 36 (0, 0))) ∧ (w'.heap[s_]? = some (.cells #[.int .u64 0, .int .u64 0] 34 (0, 0))) ∧ (w.heap.size ≤ s_) ∧ (w.heap.size ≤ s_) ∧ (gb211 ≠ s_) ∧ (s_ ≠ gb211) ∧ (gb212 ≠ s_) ∧ (s_ ≠ gb212) ∧ (gb213 ≠ s_) ∧ (s_ ≠ gb213) ∧ (Below w.heap.size w w')) ?_ ?_; rotate_left
    ·intro hCont
     refine two_ (i := 2) (j := 10) (Ni := some 19) (Nj := some 5) (qB 13 31) (qB 13 1051) rfl rfl rfl rfl (two_of HT_.out (by kernel_rfl)) (by decide) (by decide) (fun K hK => ?_) (fun K hK => ?_)
     ·skip
      refine gU Try.func57 #[.agg #[.int .i64 a0_0, .int .i64 a0_1, .int .i64 a0_2], .agg #[.int .i64 a1_0, .int .i64 a1_1, .int .i64 a1_2]] ?_; (with_reducible refine (spread_side.calls a0_0 a0_1 a0_2 a1_0 a1_1 a1_2 t216 t217 _ A25.out).mono ?_); rintro e w29 ⟨rfl, hb⟩; refine ⟨_, rfl, ?_⟩; replace BK211 := bY hb BK211; replace BK212 := bY hb BK212; replace BK213 := bY hb BK213; replace HB := aaM (lP (lB HB) hb); (try clear hb); (try clear hb2); (try clear hk); (try clear hi); refine hK.out _ _ hD (fun hHeld => ?_); clear hK K; refine nU 19 ?_
      refine two_ (i := 5) (j := 10) (Ni := some 22) (Nj := some 5) (qB 13 63) (qB 13 1055) rfl rfl rfl rfl (two_of HT_.out (by kernel_rfl)) (by decide) (by decide) (fun K hK => ?_) (fun K hK => ?_)
      ·skip
       refine gU Try.func57 #[.agg #[.int .i64 a1_0, .int .i64 a1_1, .int .i64 a1_2], .agg #[.int .i64 a0_0, .int .i64 a0_1, .int .i64 a0_2]] ?_; (with_reducible refine (spread_side.calls a1_0 a1_1 a1_2 a0_0 a0_1 a0_2 t218 t219 _ A26.out).mono ?_); rintro e w30 ⟨rfl, hb⟩; refine ⟨_, rfl, ?_⟩; replace BK211 := bY hb BK211; replace BK212 := bY hb BK212; replace BK213 := bY hb BK213; replace HB := aaM (lP (lB HB) hb); (try clear hb); (try clear hb2); (try clear hk); (try clear hi); refine hK.out _ _ hD (fun hHeld => ?_); clear hK K; refine nU 22 ?_
       refine two_ (i := 6) (j := 10) (Ni := some 23) (Nj := some 5) (qB 13 127) (qB 13 1087) rfl rfl rfl rfl (two_of HT_.out (by kernel_rfl)) (by decide) (by decide) (fun K hK => ?_) (fun K hK => ?_)
       ·skip
        refine gU Try.func56 #[.agg #[.int .u64 t216, .int .u64 t217], .agg #[.int .u64 t218, .int .u64 t219]] ?_; (with_reducible refine (prod_Add.calls t216 t217 t218 t219 t220 t221 t222 _ A27.out).mono ?_); rintro e w31 ⟨rfl, hb⟩; refine ⟨_, rfl, ?_⟩; replace BK211 := bY hb BK211; replace BK212 := bY hb BK212; replace BK213 := bY hb BK213; replace HB := aaM (lP (lB HB) hb); (try clear hb); (try clear hb2); (try clear hk); (try clear hi); refine hK.out _ _ hD (fun hHeld => ?_); clear hK K; refine nU 23 ?_
        refine pU 7 16 (qB 13 255) HT_ ?_
        refine pU 8 24 (qB 13 511) HT_ ?_
        refine pU 9 25 (qB 13 1023) HT_ ?_
        refine oU 10 (some 5) (qB 13 2047) HT_ (fun K hK => ?_); refine box_step ?hg (N := 5) ?hd (cs := #[.int .u64 0, .int .u64 0]) (t := 34) ?hr ?_; (case hd => rfl); (case hg => rfl); (case hr => first | (go_simp; done) | (go_simp; rfl)); intro gb223 hg w32 hbox hb; have hP_ := lQ (lB HB) hb; replace HB := aaM hP_.1; have BK223 := aaM (hbox); have GW223 := aaM (gQ hg hP_.2); have GE223 := aaM (gQ hg hP_.2); obtain ⟨NB211_223, NB223_211⟩ := nS hg BK211; replace BK211 := bY hb BK211; obtain ⟨NB212_223, NB223_212⟩ := nS hg BK212; replace BK212 := bY hb BK212; obtain ⟨NB213_223, NB223_213⟩ := nS hg BK213; replace BK213 := bY hb BK213; clear hb hbox hg hP_; refine hK.out _ _ hD (fun hHeld => ?_); clear hK K; refine nU 5 ?_
        exact norm_ (by simp only [putAll, Act.put, ssB, ssZ, ssS]) (hCont (gb223) _ ⟨hHeld, (bZ BK211), (bZ BK212), (bZ BK213), (bZ BK223), GW223.out, GE223.out, NB211_223.out, NB223_211.out, NB212_223.out, NB223_212.out, NB213_223.out, NB223_213.out, (lB HB)⟩)
       ·skip
        refine box_step ?hg (N := 5) ?hd (cs := #[.int .u64 0, .int .u64 0]) (t := 34) ?hr ?_; (case hd => rfl); (case hg => rfl); (case hr => first | (go_simp; done) | (go_simp; rfl)); intro gb223 hg w31 hbox hb; have hP_ := lQ (lB HB) hb; replace HB := aaM hP_.1; have BK223 := aaM (hbox); have GW223 := aaM (gQ hg hP_.2); have GE223 := aaM (gQ hg hP_.2); obtain ⟨NB211_223, NB223_211⟩ := nS hg BK211; replace BK211 := bY hb BK211; obtain ⟨NB212_223, NB223_212⟩ := nS hg BK212; replace BK212 := bY hb BK212; obtain ⟨NB213_223, NB223_213⟩ := nS hg BK213; replace BK213 := bY hb BK213; clear hb hbox hg hP_; refine hK.out _ _ hD (fun hHeld => ?_); clear hK K; refine nU 5 ?_
        refine oU 6 (some 23) (qB 13 1151) HT_ (fun K hK => ?_); refine gU Try.func56 #[.agg #[.int .u64 t216, .int .u64 t217], .agg #[.int .u64 t218, .int .u64 t219]] ?_; (with_reducible refine (prod_Add.calls t216 t217 t218 t219 t220 t221 t222 _ A27.out).mono ?_); rintro e w32 ⟨rfl, hb⟩; refine ⟨_, rfl, ?_⟩; replace BK211 := bY hb BK211; replace BK212 := bY hb BK212; replace BK213 := bY hb BK213; replace BK223 := bY hb BK223; replace HB := aaM (lP (lB HB) hb); (try clear hb); (try clear hb2); (try clear hk); (try clear hi); refine hK.out _ _ hD (fun hHeld => ?_); clear hK K; refine nU 23 ?_
        refine pU 7 16 (qB 13 1279) HT_ ?_
        refine pU 8 24 (qB 13 1535) HT_ ?_
        refine pU 9 25 (qB 13 2047) HT_ ?_
        exact norm_ (by simp only [putAll, Act.put, ssB, ssZ, ssS]) (hCont (gb223) _ ⟨hHeld, (bZ BK211), (bZ BK212), (bZ BK213), (bZ BK223), GW223.out, GE223.out, NB211_223.out, NB223_211.out, NB212_223.out, NB223_212.out, NB213_223.out, NB223_213.out, (lB HB)⟩)
      ·skip
       refine box_step ?hg (N := 5) ?hd (cs := #[.int .u64 0, .int .u64 0]) (t := 34) ?hr ?_; (case hd => rfl); (case hg => rfl); (case hr => first | (go_simp; done) | (go_simp; rfl)); intro gb223 hg w30 hbox hb; have hP_ := lQ (lB HB) hb; replace HB := aaM hP_.1; have BK223 := aaM (hbox); have GW223 := aaM (gQ hg hP_.2); have GE223 := aaM (gQ hg hP_.2); obtain ⟨NB211_223, NB223_211⟩ := nS hg BK211; replace BK211 := bY hb BK211; obtain ⟨NB212_223, NB223_212⟩ := nS hg BK212; replace BK212 := bY hb BK212; obtain ⟨NB213_223, NB223_213⟩ := nS hg BK213; replace BK213 := bY hb BK213; clear hb hbox hg hP_; refine hK.out _ _ hD (fun hHeld => ?_); clear hK K; refine nU 5 ?_
       refine oU 5 (some 22) (qB 13 1087) HT_ (fun K hK => ?_); refine gU Try.func57 #[.agg #[.int .i64 a1_0, .int .i64 a1_1, .int .i64 a1_2], .agg #[.int .i64 a0_0, .int .i64 a0_1, .int .i64 a0_2]] ?_; (with_reducible refine (spread_side.calls a1_0 a1_1 a1_2 a0_0 a0_1 a0_2 t218 t219 _ A26.out).mono ?_); rintro e w31 ⟨rfl, hb⟩; refine ⟨_, rfl, ?_⟩; replace BK211 := bY hb BK211; replace BK212 := bY hb BK212; replace BK213 := bY hb BK213; replace BK223 := bY hb BK223; replace HB := aaM (lP (lB HB) hb); (try clear hb); (try clear hb2); (try clear hk); (try clear hi); refine hK.out _ _ hD (fun hHeld => ?_); clear hK K; refine nU 22 ?_
       refine oU 6 (some 23) (qB 13 1151) HT_ (fun K hK => ?_); refine gU Try.func56 #[.agg #[.int .u64 t216, .int .u64 t217], .agg #[.int .u64 t218, .int .u64 t219]] ?_; (with_reducible refine (prod_Add.calls t216 t217 t218 t219 t220 t221 t222 _ A27.out).mono ?_); rintro e w32 ⟨rfl, hb⟩; refine ⟨_, rfl, ?_⟩; replace BK211 := bY hb BK211; replace BK212 := bY hb BK212; replace BK213 := bY hb BK213; replace BK223 := bY hb BK223; replace HB := aaM (lP (lB HB) hb); (try clear hb); (try clear hb2); (try clear hk); (try clear hi); refine hK.out _ _ hD (fun hHeld => ?_); clear hK K; refine nU 23 ?_
       refine pU 7 16 (qB 13 1279) HT_ ?_
       refine pU 8 24 (qB 13 1535) HT_ ?_
       refine pU 9 25 (qB 13 2047) HT_ ?_
       exact norm_ (by simp only [putAll, Act.put, ssB, ssZ, ssS]) (hCont (gb223) _ ⟨hHeld, (bZ BK211), (bZ BK212), (bZ BK213), (bZ BK223), GW223.out, GE223.out, NB211_223.out, NB223_211.out, NB212_223.out, NB223_212.out, NB213_223.out, NB223_213.out, (lB HB)⟩)
     ·skip
      refine box_step ?hg (N := 5) ?hd (cs := #[.int .u64 0, .int .u64 0]) (t := 34) ?hr ?_; (case hd => rfl); (case hg => rfl); (case hr => first | (go_simp; done) | (go_simp; rfl)); intro gb223 hg w29 hbox hb; have hP_ := lQ (lB HB) hb; replace HB := aaM hP_.1; have BK223 := aaM (hbox); have GW223 := aaM (gQ hg hP_.2); have GE223 := aaM (gQ hg hP_.2); obtain ⟨NB211_223, NB223_211⟩ := nS hg BK211; replace BK211 := bY hb BK211; obtain ⟨NB212_223, NB223_212⟩ := nS hg BK212; replace BK212 := bY hb BK212; obtain ⟨NB213_223, NB223_213⟩ := nS hg BK213; replace BK213 := bY hb BK213; clear hb hbox hg hP_; refine hK.out _ _ hD (fun hHeld => ?_); clear hK K; refine nU 5 ?_
      refine oU 2 (some 19) (qB 13 1055) HT_ (fun K hK => ?_); refine gU Try.func57 #[.agg #[.int .i64 a0_0, .int .i64 a0_1, .int .i64 a0_2], .agg #[.int .i64 a1_0, .int .i64 a1_1, .int .i64 a1_2]] ?_; (with_reducible refine (spread_side.calls a0_0 a0_1 a0_2 a1_0 a1_1 a1_2 t216 t217 _ A25.out).mono ?_); rintro e w30 ⟨rfl, hb⟩; refine ⟨_, rfl, ?_⟩; replace BK211 := bY hb BK211; replace BK212 := bY hb BK212; replace BK213 := bY hb BK213; replace BK223 := bY hb BK223; replace HB := aaM (lP (lB HB) hb); (try clear hb); (try clear hb2); (try clear hk); (try clear hi); refine hK.out _ _ hD (fun hHeld => ?_); clear hK K; refine nU 19 ?_
      refine oU 5 (some 22) (qB 13 1087) HT_ (fun K hK => ?_); refine gU Try.func57 #[.agg #[.int .i64 a1_0, .int .i64 a1_1, .int .i64 a1_2], .agg #[.int .i64 a0_0, .int .i64 a0_1, .int .i64 a0_2]] ?_; (with_reducible refine (spread_side.calls a1_0 a1_1 a1_2 a0_0 a0_1 a0_2 t218 t219 _ A26.out).mono ?_); rintro e w31 ⟨rfl, hb⟩; refine ⟨_, rfl, ?_⟩; replace BK211 := bY hb BK211; replace BK212 := bY hb BK212; replace BK213 := bY hb BK213; replace BK223 := bY hb BK223; replace HB := aaM (lP (lB HB) hb); (try clear hb); (try clear hb2); (try clear hk); (try clear hi); refine hK.out _ _ hD (fun hHeld => ?_); clear hK K; refine nU 22 ?_
      refine oU 6 (some 23) (qB 13 1151) HT_ (fun K hK => ?_); refine gU Try.func56 #[.agg #[.int .u64 t216, .int .u64 t217], .agg #[.int .u64 t218, .int .u64 t219]] ?_; (with_reducible refine (prod_Add.calls t216 t217 t218 t219 t220 t221 t222 _ A27.out).mono ?_); rintro e w32 ⟨rfl, hb⟩; refine ⟨_, rfl, ?_⟩; replace BK211 := bY hb BK211; replace BK212 := bY hb BK212; replace BK213 := bY hb BK213; replace BK223 := bY hb BK223; replace HB := aaM (lP (lB HB) hb); (try clear hb); (try clear hb2); (try clear hk); (try clear hi); refine hK.out _ _ hD (fun hHeld => ?_); clear hK K; refine nU 23 ?_
      refine pU 7 16 (qB 13 1279) HT_ ?_
      refine pU 8 24 (qB 13 1535) HT_ ?_
      refine pU 9 25 (qB 13 2047) HT_ ?_
      exact norm_ (by simp only [putAll, Act.put, ssB, ssZ, ssS]) (hCont (gb223) _ ⟨hHeld, (bZ BK211), (bZ BK212), (bZ BK213), (bZ BK223), GW223.out, GE223.out, NB211_223.out, NB223_211.out, NB212_223.out, NB223_212.out, NB213_223.out, NB223_213.out, (lB HB)⟩)
    rintro gb223 w33 ⟨hS_, h0_, h1_, h2_, h3_, h4_, h5_, h6_, h7_, h8_, h9_, h10_, h11_, h12_⟩; have n0_ : Aside0 (w33.heap[gb211]? = some (.cells #[.int .i64 a0_0, .int .i64 a0_1, .int .i64 a0_2] 26 (0, 0))) := ⟨h0_⟩; have n1_ : Aside0 (w33.heap[gb212]? = some (.cells #[.int .i64 a1_0, .int .i64 a1_1, .int .i64 a1_2] 26 (0, 0))) := ⟨h1_⟩; have n2_ : Aside0 (w33.heap[gb213]? = some (.cells #[.int .u64 0, .int .u64 0, .int .u64 0] 36 (0, 0))) := ⟨h2_⟩; have n3_ : Aside0 (w33.heap[gb223]? = some (.cells #[.int .u64 0, .int .u64 0] 34 (0, 0))) := ⟨h3_⟩; have n4_ : Aside0 (w.heap.size ≤ gb223) := ⟨h4_⟩; have n5_ : Aside0 (w.heap.size ≤ gb223) := ⟨h5_⟩; have n6_ : Aside0 (gb211 ≠ gb223) := ⟨h6_⟩; have n7_ : Aside0 (gb223 ≠ gb211) := ⟨h7_⟩; have n8_ : Aside0 (gb212 ≠ gb223) := ⟨h8_⟩; have n9_ : Aside0 (gb223 ≠ gb212) := ⟨h9_⟩; have n10_ : Aside0 (gb213 ≠ gb223) := ⟨h10_⟩; have n11_ : Aside0 (gb223 ≠ gb213) := ⟨h11_⟩; have n12_ : Aside0 (Below w.heap.size w w33) := ⟨h12_⟩; clear BK211 BK212 BK213 HB h0_ h1_ h2_ h3_ h4_ h5_ h6_ h7_ h8_ h9_ h10_ h11_ h12_; have BK211 := n0_; have BK212 := n1_; have BK213 := n2_; have BK223 := n3_; have GW223 := n4_; have GE223 := n5_; have NB211_223 := n6_; have NB223_211 := n7_; have NB212_223 := n8_; have NB223_212 := n9_; have NB213_223 := n10_; have NB223_213 := n11_; have HB := n12_; clear n0_ n1_ n2_ n3_ n4_ n5_ n6_ n7_ n8_ n9_ n10_ n11_ n12_; have hHeld : w33.cell? ⟨gb211, 0, none⟩ = some (.int .i64 a0_0) ∧ w33.cell? ⟨gb211, 1, none⟩ = some (.int .i64 a0_1) ∧ w33.cell? ⟨gb211, 2, none⟩ = some (.int .i64 a0_2) ∧ w33.cell? ⟨gb212, 0, none⟩ = some (.int .i64 a1_0) ∧ w33.cell? ⟨gb212, 1, none⟩ = some (.int .i64 a1_1) ∧ w33.cell? ⟨gb212, 2, none⟩ = some (.int .i64 a1_2) := hS_; refine norm_ (a' := ?_) ?_ ?_; rotate_left
    ·simp only [putAll, Act.put, ssB, ssZ, ssS]
     rfl
    refine oU 11 none (qB 13 4095) HT_ (fun K hK => ?_); obtain ⟨hs34, -, hfs34, -⟩ := bE2 BK223.out; have := NB211_223.out; have := NB212_223.out; have := NB213_223.out; have := NB223_211.out; have := NB223_212.out; have := NB223_213.out; obtain ⟨-, hs35, -, hfs35⟩ := bE2 BK223.out; have := NB211_223.out; have := NB212_223.out; have := NB213_223.out; have := NB223_211.out; have := NB223_212.out; have := NB223_213.out; refine skip_ (w1 := ?_) (by rfl) rfl ?_ ?_; rotate_left
    ·go_simp
     rfl
    refine hK.out _ _ (cH hHeld) (fun hHeld => ?_); clear hK K; refine pU 12 6 (qB 13 8191) HT_ ?_
    refine done_ (done_of HT_.out (by kernel_rfl)) ?_; have := NB223_211.out; have := NB211_223.out; have := NB223_212.out; have := NB212_223.out; have := NB223_213.out; have := NB213_223.out; obtain ⟨_, _, _, _⟩ := bE2 BK223.out; have := NB211_212.out; have := NB212_211.out; have := NB211_213.out; have := NB213_211.out; obtain ⟨_, _, _, _, _, _⟩ := bE3 BK211.out; have := NB212_213.out; have := NB213_212.out; obtain ⟨_, _, _, _, _, _⟩ := bE3 BK212.out; obtain ⟨_, _, _, _, _, _⟩ := bE3 BK213.out; (try go_wp2); refine bodyPost_ret (results_cell_row rfl _ _ gb213 36 #[.int .u64 t220, .int .u64 t221, .int .u64 (IntKind.u64.wrap ((IntKind.u64.wrap (a0_0)) * (IntKind.u64.wrap (a1_0))))] (0, 0) _ rfl (bZ BK213) Try.underlying36 rfl (by kernel_rfl)) rfl ?_
    exact ⟨eE, lB HB⟩

end Go.Proofs.Ytoonddgldmfleaa.QSpreadShift
