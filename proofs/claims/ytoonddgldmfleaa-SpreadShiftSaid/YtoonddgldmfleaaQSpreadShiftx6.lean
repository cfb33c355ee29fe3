-- Written by a program of this session (wip/tools/mkprint.py over the kit's print); Lean checks it.
import Derived.Test.YtoonddgldmfleaaQSpreadShiftx0
import Derived.Test.YtoonddgldmfleaaQSpreadShiftx2
import Derived.Test.YtoonddgldmfleaaQSpreadShiftx4
import Derived.Test.YtoonddgldmfleaaQSpreadShiftx5
namespace Go.Proofs.Ytoonddgldmfleaa.QSpreadShift
open Go.RowKit Go.Proofs.YtoonddgldmfleaaW.PrintWords Go.Proofs.YtoonddgldmfleaaW.PrintLast Go.Proofs.YtoonddgldmfleaaW.PrintMore
attribute [local go_sem] max2_int min2_int max_two min_two max_three min_three max_four min_four   -- for this text's walks alone
set_option linter.unusedVariables false
set_option linter.unusedSimpArgs false

attribute [local go_sem high] eqA36
/-! ### spread_Mean: function 16 -/
def spread_Mean.f (k : Nat) (a0_0 : Int) (a0_1 : Int) (a0_2 : Int) : Option (Int × Bool) := (spread_there.f k a0_0 a0_1 a0_2).bind fun t272 => (if t272 = true then ((prod_Floor.f a0_1 a0_0).bind fun bt273 => (some (bt273.1, true))) else (some (0, false)))
theorem spread_Mean.mono : ∀ a0 a1 a2 k, LeO (spread_Mean.f k a0 a1 a2) (spread_Mean.f (k + 1) a0 a1 a2) := by
 intro a0 a1 a2 k
 unfold spread_Mean.f
 repeat' first
   | (with_reducible exact spread_there.mono _ _ _ _)
   | (with_reducible exact LeO.refl _)
   | (with_reducible exact LeO.none _)
   | (with_reducible refine LeO.ite ?_ ?_)
   | (with_reducible refine LeO.bind ?_ (fun _ => ?_))
   | exact spread_there.mono _ _ _ _
   | exact LeO.none _
   | refine LeO.ite ?_ ?_
   | refine LeO.bind ?_ (fun _ => ?_)
set_option maxHeartbeats 8000000 in
set_option maxRecDepth 100000 in
theorem spread_Mean.calls (k : Nat) (a0_0 : Int) (a0_1 : Int) (a0_2 : Int) (r1 : Int) (r2 : Bool) (w : World) (h : spread_Mean.f k a0_0 a0_1 a0_2 = some (r1, r2)) :
  Calls Try.prog 16 #[.agg #[.int .i64 a0_0, .int .i64 a0_1, .int .i64 a0_2]] w fun e w' => e = .returned (.tuple #[.int .i64 r1, .bool r2]) ∧ Below w.heap.size w w' := by
 have hu26 := Try.underlying26
 have HB := aaM (Below.refl w.heap.size w)
 have H : ((spread_there.f k a0_0 a0_1 a0_2).bind fun t272 => (if t272 = true then ((prod_Floor.f a0_1 a0_0).bind fun bt273 => (some (bt273.1, true))) else (some (0, false)))) = some (r1, r2) := h
 clear h
 replace H := ooB.mp H
 obtain ⟨t272, A20, H⟩ := H
 replace H : (if t272 = true then ((prod_Floor.f a0_1 a0_0).bind fun bt273 => (some (bt273.1, true))) else (some (0, false))) = some (r1, r2) := H
 have A2 := aaM A20
 clear A20
 by_cases c3 : t272 = true
 ·subst c3
  have H1 : ((prod_Floor.f a0_1 a0_0).bind fun bt273 => (some (bt273.1, true))) = some (r1, r2) := by rw [if_pos rfl] at H; exact H
  clear H; have H := H1; clear H1; replace H := ooB.mp H; obtain ⟨⟨t273, t274⟩, A40, H⟩ := H; replace H : (some (t273, true)) = some (r1, r2) := H; have A4 := aaM A40; clear A40; simp only [Option.some.injEq, Prod.mk.injEq] at H; obtain ⟨rfl, rfl⟩ := H; go_enter Try.func16, Try.ntmps16
  go_wp2_with (first | ((with_reducible refine gate_dst (N := 1) rfl ?_); refine bxF w HB 1 #[.int .i64 a0_0, .int .i64 a0_1, .int .i64 a0_2] 26 ?_; intro gb271 hg w5 hb BK271 HB GE271; have GW271 := GE271; clear hb hg; obtain ⟨_, _, _, _, _, _⟩ := bE3 BK271.out) | ((with_reducible refine gate_callee (f := 42) rfl ?_); refine gL (some 7) Try.func42 #[.agg #[.int .i64 a0_0, .int .i64 a0_1, .int .i64 a0_2]] ?_; (with_reducible refine (spread_there.calls k a0_0 a0_1 a0_2 true _ A2.out).mono ?_); rintro e w7 ⟨rfl, hb⟩; refine ⟨_, rfl, ?_⟩; replace BK271 := bY hb BK271; replace HB := aaM (lP (lB HB) hb); (try clear hb); (try clear hb2); (try clear hk); (try clear hi); obtain ⟨_, _, _, _, _, _⟩ := bE3 BK271.out) | ((with_reducible refine gate_callee (f := 43) rfl ?_); refine gL (some 14) Try.func43 #[.int .i64 a0_1, .int .i64 a0_0] ?_; (with_reducible refine (prod_Floor.calls a0_1 a0_0 t273 t274 _ A4.out).mono ?_); rintro e w' ⟨rfl, ⟨nd, rfl⟩⟩; refine ⟨_, rfl, ?_⟩))
  all_goals (go_ret2; exact ⟨by first | rfl | (simp [errW_none, errW_some] <;> rfl) | (simp [*, errW_none, errW_some] <;> rfl) | (simp_all; done), lB HB⟩)
 ·replace c3 := Bool.eq_false_iff.mpr c3
  subst c3
  have H1 : (some (0, false)) = some (r1, r2) := by rw [if_neg (show ¬ (false = true) by decide)] at H; exact H
  clear H; have H := H1; clear H1; simp only [Option.some.injEq, Prod.mk.injEq] at H; obtain ⟨rfl, rfl⟩ := H; go_enter Try.func16, Try.ntmps16
  go_wp2_with (first | ((with_reducible refine gate_dst (N := 1) rfl ?_); refine bxF w HB 1 #[.int .i64 a0_0, .int .i64 a0_1, .int .i64 a0_2] 26 ?_; intro gb271 hg w9 hb BK271 HB GE271; have GW271 := GE271; clear hb hg; obtain ⟨_, _, _, _, _, _⟩ := bE3 BK271.out) | ((with_reducible refine gate_callee (f := 42) rfl ?_); refine gL (some 7) Try.func42 #[.agg #[.int .i64 a0_0, .int .i64 a0_1, .int .i64 a0_2]] ?_; (with_reducible refine (spread_there.calls k a0_0 a0_1 a0_2 false _ A2.out).mono ?_); rintro e w11 ⟨rfl, hb⟩; refine ⟨_, rfl, ?_⟩; replace BK271 := bY hb BK271; replace HB := aaM (lP (lB HB) hb); (try clear hb); (try clear hb2); (try clear hk); (try clear hi)))
  all_goals (go_ret2; exact ⟨by first | rfl | (simp [errW_none, errW_some] <;> rfl) | (simp [*, errW_none, errW_some] <;> rfl) | (simp_all; done), lB HB⟩)

/-! ### spread_Alone: function 20 -/
def spread_Alone.f (k : Nat) (a0_0 : Int) (a0_1 : Int) (a0_2 : Int) : Option (Int × Int × Int) := (spread_there.f k a0_0 a0_1 a0_2).bind fun t277 => (if t277 = true then ((prod_Square.f a0_1).bind fun bt278 => (some (bt278.1, bt278.2, IntKind.u64.wrap (a0_0)))) else (some (0, 0, 0)))
theorem spread_Alone.mono : ∀ a0 a1 a2 k, LeO (spread_Alone.f k a0 a1 a2) (spread_Alone.f (k + 1) a0 a1 a2) := by
 intro a0 a1 a2 k
 unfold spread_Alone.f
 repeat' first
   | (with_reducible exact spread_there.mono _ _ _ _)
   | (with_reducible exact LeO.refl _)
   | (with_reducible exact LeO.none _)
   | (with_reducible refine LeO.ite ?_ ?_)
   | (with_reducible refine LeO.bind ?_ (fun _ => ?_))
   | exact spread_there.mono _ _ _ _
   | exact LeO.none _
   | refine LeO.ite ?_ ?_
   | refine LeO.bind ?_ (fun _ => ?_)
def spread_Alone.T3 : Bool × List (List Nat × List Nat) := (true, [([], []), ([0], [0]), ([1], [1]), ([], []), ([3], [3]), ([4], [4]), ([2, 5], [2, 5]), ([6, 2, 0, 1, 2, 3, 4, 5, 6], [6])])
def spread_Alone.B3 : List Nat := [0, 1, 3, 0, 8, 24, 63, 127]
theorem spread_Alone.tab3 : rtab .any (opsOf Try.f20 3) = spread_Alone.T3 := by kernel_rfl
theorem spread_Alone.bits3 : waitsOk spread_Alone.T3.2 spread_Alone.B3 = true := by kernel_rfl
set_option maxHeartbeats 8000000 in
set_option maxRecDepth 100000 in
theorem spread_Alone.calls (k : Nat) (a0_0 : Int) (a0_1 : Int) (a0_2 : Int) (r1 : Int) (r2 : Int) (r3 : Int) (w : World) (h : spread_Alone.f k a0_0 a0_1 a0_2 = some (r1, r2, r3)) :
  Calls Try.prog 20 #[.agg #[.int .i64 a0_0, .int .i64 a0_1, .int .i64 a0_2]] w fun e w' => e = .returned (.agg #[.int .u64 r1, .int .u64 r2, .int .u64 r3]) ∧ Below w.heap.size w w' := by
 have hu26 := Try.underlying26
 have hu36 := Try.underlying36
 have HB := aaM (Below.refl w.heap.size w)
 have H : ((spread_there.f k a0_0 a0_1 a0_2).bind fun t277 => (if t277 = true then ((prod_Square.f a0_1).bind fun bt278 => (some (bt278.1, bt278.2, IntKind.u64.wrap (a0_0)))) else (some (0, 0, 0)))) = some (r1, r2, r3) := h
 clear h
 replace H := ooB.mp H
 obtain ⟨t277, A20, H⟩ := H
 replace H : (if t277 = true then ((prod_Square.f a0_1).bind fun bt278 => (some (bt278.1, bt278.2, IntKind.u64.wrap (a0_0)))) else (some (0, 0, 0))) = some (r1, r2, r3) := H
 have A2 := aaM A20
 clear A20
 by_cases c3 : t277 = true
 ·subst c3
  have H1 : ((prod_Square.f a0_1).bind fun bt278 => (some (bt278.1, bt278.2, IntKind.u64.wrap (a0_0)))) = some (r1, r2, r3) := by rw [if_pos rfl] at H; exact H
  clear H; have H := H1; clear H1; replace H := ooB.mp H; obtain ⟨⟨t278, t279⟩, A40, H⟩ := H; replace H : (some (t278, t279, IntKind.u64.wrap (a0_0))) = some (r1, r2, r3) := H; have A4 := aaM A40; clear A40; simp only [Option.some.injEq, Prod.mk.injEq] at H; obtain ⟨rfl, rfl, rfl⟩ := H; go_enter Try.func20, Try.ntmps20; (try go_wp2_with (first | ((with_reducible refine gate_dst (N := 1) rfl ?_); refine bxF w HB 1 #[.int .i64 a0_0, .int .i64 a0_1, .int .i64 a0_2] 26 ?_; intro gb275 hg w5 hb BK275 HB GE275; have GW275 := GE275; clear hb hg) | ((with_reducible refine gate_dst (N := 2) rfl ?_); refine bxF w HB 2 #[.int .u64 0, .int .u64 0, .int .u64 0] 36 ?_; intro gb276 hg w6 hb BK276 HB GE276; have GW276 := GE276; obtain ⟨NB275_276, NB276_275⟩ := nS hg BK275; replace BK275 := bY hb BK275; clear hb hg; have := NB275_276.out; have := NB276_275.out; obtain ⟨_, _, _, _, _, _⟩ := bE3 BK275.out) | ((with_reducible refine gate_callee (f := 42) rfl ?_); refine gL (some 4) Try.func42 #[.agg #[.int .i64 a0_0, .int .i64 a0_1, .int .i64 a0_2]] ?_; (with_reducible refine (spread_there.calls k a0_0 a0_1 a0_2 true _ A2.out).mono ?_); rintro e w9 ⟨rfl, hb⟩; refine ⟨_, rfl, ?_⟩; replace BK275 := bY hb BK275; replace BK276 := bY hb BK276; replace HB := aaM (lP (lB HB) hb); (try clear hb); (try clear hb2); (try clear hk); (try clear hi)))); replace BK275 := aaM (bD BK275.out); replace BK276 := aaM (bD BK276.out); replace HB := aaM (lD HB.out)
  refine start_ (n := 8) (S := fun w' => w'.cell? ⟨gb275, 0, none⟩ = some (.int .i64 a0_0) ∧ w'.cell? ⟨gb275, 1, none⟩ = some (.int .i64 a0_1) ∧ w'.cell? ⟨gb275, 2, none⟩ = some (.int .i64 a0_2)) (ds := []) _ (by kernel_rfl) rfl rfl hD (fun hHeld => ?_); refine with_tabW spread_Alone.tab3 spread_Alone.bits3 (fun HT_ HW_ => ?_); generalize w9.drew = w10 at BK275 BK276 HB hHeld ⊢; refine pU 0 7 (qB 8 1) HT_ ?_
  refine pU 3 10 (qB 8 9) HT_ ?_
  refine tU 1 8 (qB 8 11) HT_ HW_ hHeld ?_
  refine tU 4 11 (qB 8 27) HT_ HW_ hHeld ?_
  refine pU 5 12 (qB 8 59) HT_ ?_
  refine oU 2 (some 9) (qB 8 63) HT_ (fun K hK => ?_); refine gU Try.func46 #[.int .i64 a0_1] ?_; (with_reducible refine (prod_Square.calls a0_1 t278 t279 _ A4.out).mono ?_); rintro e w11 ⟨rfl, hb⟩; refine ⟨_, rfl, ?_⟩; replace BK275 := bY hb BK275; replace BK276 := bY hb BK276; replace HB := aaM (lP (lB HB) hb); (try clear hb); (try clear hb2); (try clear hk); (try clear hi); refine hK.out _ _ hD (fun hHeld => ?_); clear hK K; refine nU 9 ?_
  refine pU 6 13 (qB 8 127) HT_ ?_
  refine oU 7 none (qB 8 255) HT_ (fun K hK => ?_); obtain ⟨hs12, -, -, hfs12, -, -⟩ := bE3 BK276.out; have := NB275_276.out; have := NB276_275.out; obtain ⟨-, hs13, -, -, hfs13, -⟩ := bE3 BK276.out; have := NB275_276.out; have := NB276_275.out; obtain ⟨-, -, hs14, -, -, hfs14⟩ := bE3 BK276.out; have := NB275_276.out; have := NB276_275.out; refine skip_ (w1 := ?_) (by rfl) rfl ?_ ?_; rotate_left
  ·go_simp
   rfl
  refine hK.out _ _ (cH hHeld) (fun hHeld => ?_); clear hK K; refine done_ (done_of HT_.out (by kernel_rfl)) ?_; (try go_wp2); refine bodyPost_ret (results_cell_row rfl _ _ gb276 36 #[.int .u64 t278, .int .u64 t279, .int .u64 (IntKind.u64.wrap (a0_0))] (0, 0) _ rfl (bZ BK276) Try.underlying36 rfl (by kernel_rfl)) rfl ?_
  exact ⟨eE, lB HB⟩
 ·replace c3 := Bool.eq_false_iff.mpr c3
  subst c3
  have H1 : (some (0, 0, 0)) = some (r1, r2, r3) := by rw [if_neg (show ¬ (false = true) by decide)] at H; exact H
  clear H; have H := H1; clear H1; simp only [Option.some.injEq, Prod.mk.injEq] at H; obtain ⟨rfl, rfl, rfl⟩ := H; go_enter Try.func20, Try.ntmps20
  go_wp2_with (first | ((with_reducible refine gate_dst (N := 1) rfl ?_); refine bxF w HB 1 #[.int .i64 a0_0, .int .i64 a0_1, .int .i64 a0_2] 26 ?_; intro gb275 hg w15 hb BK275 HB GE275; have GW275 := GE275; clear hb hg) | ((with_reducible refine gate_dst (N := 2) rfl ?_); refine bxF w HB 2 #[.int .u64 0, .int .u64 0, .int .u64 0] 36 ?_; intro gb276 hg w16 hb BK276 HB GE276; have GW276 := GE276; obtain ⟨NB275_276, NB276_275⟩ := nS hg BK275; replace BK275 := bY hb BK275; clear hb hg; have := NB275_276.out; have := NB276_275.out; obtain ⟨_, _, _, _, _, _⟩ := bE3 BK275.out) | ((with_reducible refine gate_callee (f := 42) rfl ?_); refine gL (some 4) Try.func42 #[.agg #[.int .i64 a0_0, .int .i64 a0_1, .int .i64 a0_2]] ?_; (with_reducible refine (spread_there.calls k a0_0 a0_1 a0_2 false _ A2.out).mono ?_); rintro e w19 ⟨rfl, hb⟩; refine ⟨_, rfl, ?_⟩; replace BK275 := bY hb BK275; replace BK276 := bY hb BK276; replace HB := aaM (lP (lB HB) hb); (try clear hb); (try clear hb2); (try clear hk); (try clear hi); obtain ⟨_, _, _, _, _, _⟩ := bE3 BK276.out))
  refine bodyPost_ret (results_cell_row rfl _ _ gb276 36 #[.int .u64 0, .int .u64 0, .int .u64 0] (0, 0) _ rfl (bZ BK276) Try.underlying36 rfl (by kernel_rfl)) rfl ?_
  exact ⟨eE, lB HB⟩

/-! ### hornbeamlaw15_fixed: function 14 -/
def hornbeamlaw15_fixed.f (k : Nat)  : Option (Bool) := (spread_Mean.f k 3 7 19).bind fun bt281 => ((spread_Alone.f k 3 7 19).bind fun bt283 => (if ((bt283.1 == 0 && (bt283.2.1 == 49)) && (bt283.2.2 == 3)) = true then (if bt281.2 = true then (some (bt281.1 == 2)) else (some false)) else (some false)))
theorem hornbeamlaw15_fixed.mono : ∀ k, LeO (hornbeamlaw15_fixed.f k ) (hornbeamlaw15_fixed.f (k + 1) ) := by
 intro  k
 unfold hornbeamlaw15_fixed.f
 repeat' first
   | (with_reducible exact spread_Alone.mono _ _ _ _)
   | (with_reducible exact spread_Mean.mono _ _ _ _)
   | (with_reducible exact LeO.refl _)
   | (with_reducible exact LeO.none _)
   | (with_reducible refine LeO.ite ?_ ?_)
   | (with_reducible refine LeO.bind ?_ (fun _ => ?_))
   | exact spread_Alone.mono _ _ _ _
   | exact spread_Mean.mono _ _ _ _
   | exact LeO.none _
   | refine LeO.ite ?_ ?_
   | refine LeO.bind ?_ (fun _ => ?_)
set_option maxHeartbeats 8000000 in
set_option maxRecDepth 100000 in
theorem hornbeamlaw15_fixed.calls (k : Nat)  (r : Bool) (w : World) (h : hornbeamlaw15_fixed.f k  = some r) :
  Calls Try.prog 14 #[] w fun e w' => e = .returned (.bool r) ∧ Below w.heap.size w w' := by
 have hu26 := Try.underlying26
 have hu34 := Try.underlying34
 have hu36 := Try.underlying36
 have HB := aaM (Below.refl w.heap.size w)
 have H : ((spread_Mean.f k 3 7 19).bind fun bt281 => ((spread_Alone.f k 3 7 19).bind fun bt283 => (if ((bt283.1 == 0 && (bt283.2.1 == 49)) && (bt283.2.2 == 3)) = true then (if bt281.2 = true then (some (bt281.1 == 2)) else (some false)) else (some false)))) = some r := h
 clear h
 replace H := ooB.mp H
 obtain ⟨⟨t281, t282⟩, A10, H⟩ := H
 replace H : ((spread_Alone.f k 3 7 19).bind fun bt283 => (if ((bt283.1 == 0 && (bt283.2.1 == 49)) && (bt283.2.2 == 3)) = true then (if t282 = true then (some (t281 == 2)) else (some false)) else (some false))) = some r := H
 have A1 := aaM A10
 clear A10
 replace H := ooB.mp H
 obtain ⟨⟨t283, t284, t285⟩, A20, H⟩ := H
 replace H : (if ((t283 == 0 && (t284 == 49)) && (t285 == 3)) = true then (if t282 = true then (some (t281 == 2)) else (some false)) else (some false)) = some r := H
 have A2 := aaM A20
 clear A20
 by_cases c3 : ((t283 == 0 && (t284 == 49)) && (t285 == 3)) = true
 ·rw [if_pos c3] at H
  have c3b0 : ((t283 == 0 && (t284 == 49)) && (t285 == 3)) = true := c3; clear c3
  by_cases c4 : t282 = true
  ·subst c4
   have H1 : (some (t281 == 2)) = some r := by rw [if_pos rfl] at H; exact H
   clear H; have H := H1; clear H1; obtain rfl := Option.some.inj H; go_enter Try.func14, Try.ntmps14
   go_wp2_with (first | ((with_reducible refine gate_dst (N := 1) rfl ?_); refine bxF w HB 1 #[.int .i64 0, .int .i64 0, .int .i64 0] 26 ?_; intro gb280 hg w5 hb BK280 HB GE280; have GW280 := GE280; clear hb hg; obtain ⟨_, _, _, _, _, _⟩ := bE3 BK280.out) | ((with_reducible refine gate_callee (f := 16) rfl ?_); refine gL (some 7) Try.func16 #[.agg #[.int .i64 3, .int .i64 7, .int .i64 19]] ?_; (with_reducible refine (spread_Mean.calls k 3 7 19 t281 true _ A1.out).mono ?_); rintro e w7 ⟨rfl, hb⟩; refine ⟨_, rfl, ?_⟩; replace BK280 := aaM (bB (g := gb280) (o := .cells #[.int .i64 3, .int .i64 7, .int .i64 19] 26 (0, 0)) (bZ BK280) hb); replace HB := aaM (lP (lB HB) hb); (try clear hb); (try clear hb2); (try clear hk); (try clear hi); obtain ⟨_, _, _, _, _, _⟩ := bE3 BK280.out) | ((with_reducible refine gate_callee (f := 20) rfl ?_); refine gL (some 11) Try.func20 #[.agg #[.int .i64 3, .int .i64 7, .int .i64 19]] ?_; (with_reducible refine (spread_Alone.calls k 3 7 19 t283 t284 t285 _ A2.out).mono ?_); rintro e w9 ⟨rfl, hb⟩; refine ⟨_, rfl, ?_⟩; replace BK280 := bY hb BK280; replace HB := aaM (lP (lB HB) hb); (try clear hb); (try clear hb2); (try clear hk); (try clear hi)))
   all_goals (go_ret; exact ⟨by first | rfl | (simp [errW_none, errW_some] <;> rfl) | (simp [*, errW_none, errW_some] <;> rfl) | (simp_all; done), lB HB⟩)
  ·replace c4 := Bool.eq_false_iff.mpr c4
   subst c4
   have H1 : (some false) = some r := by rw [if_neg (show ¬ (false = true) by decide)] at H; exact H
   clear H; have H := H1; clear H1; obtain rfl := Option.some.inj H; go_enter Try.func14, Try.ntmps14
   go_wp2_with (first | ((with_reducible refine gate_dst (N := 1) rfl ?_); refine bxF w HB 1 #[.int .i64 0, .int .i64 0, .int .i64 0] 26 ?_; intro gb280 hg w10 hb BK280 HB GE280; have GW280 := GE280; clear hb hg; obtain ⟨_, _, _, _, _, _⟩ := bE3 BK280.out) | ((with_reducible refine gate_callee (f := 16) rfl ?_); refine gL (some 7) Try.func16 #[.agg #[.int .i64 3, .int .i64 7, .int .i64 19]] ?_; (with_reducible refine (spread_Mean.calls k 3 7 19 t281 false _ A1.out).mono ?_); rintro e w12 ⟨rfl, hb⟩; refine ⟨_, rfl, ?_⟩; replace BK280 := aaM (bB (g := gb280) (o := .cells #[.int .i64 3, .int .i64 7, .int .i64 19] 26 (0, 0)) (bZ BK280) hb); replace HB := aaM (lP (lB HB) hb); (try clear hb); (try clear hb2); (try clear hk); (try clear hi); obtain ⟨_, _, _, _, _, _⟩ := bE3 BK280.out) | ((with_reducible refine gate_callee (f := 20) rfl ?_); refine gL (some 11) Try.func20 #[.agg #[.int .i64 3, .int .i64 7, .int .i64 19]] ?_; (with_reducible refine (spread_Alone.calls k 3 7 19 t283 t284 t285 _ A2.out).mono ?_); rintro e w14 ⟨rfl, hb⟩; refine ⟨_, rfl, ?_⟩; replace BK280 := bY hb BK280; replace HB := aaM (lP (lB HB) hb); (try clear hb); (try clear hb2); (try clear hk); (try clear hi)))
   all_goals (go_ret; exact ⟨by first | rfl | (simp [errW_none, errW_some] <;> rfl) | (simp [*, errW_none, errW_some] <;> rfl) | (simp_all; done), lB HB⟩)
 ·rw [if_neg c3] at H
  have c3b0 : ((t283 == 0 && (t284 == 49)) && (t285 == 3)) = false := by simpa using c3
  clear c3; obtain rfl := Option.some.inj H; go_enter Try.func14, Try.ntmps14
  go_wp2_with (first | ((with_reducible refine gate_dst (N := 1) rfl ?_); refine bxF w HB 1 #[.int .i64 0, .int .i64 0, .int .i64 0] 26 ?_; intro gb280 hg w15 hb BK280 HB GE280; have GW280 := GE280; clear hb hg; obtain ⟨_, _, _, _, _, _⟩ := bE3 BK280.out) | ((with_reducible refine gate_callee (f := 16) rfl ?_); refine gL (some 7) Try.func16 #[.agg #[.int .i64 3, .int .i64 7, .int .i64 19]] ?_; (with_reducible refine (spread_Mean.calls k 3 7 19 t281 t282 _ A1.out).mono ?_); rintro e w17 ⟨rfl, hb⟩; refine ⟨_, rfl, ?_⟩; replace BK280 := aaM (bB (g := gb280) (o := .cells #[.int .i64 3, .int .i64 7, .int .i64 19] 26 (0, 0)) (bZ BK280) hb); replace HB := aaM (lP (lB HB) hb); (try clear hb); (try clear hb2); (try clear hk); (try clear hi); obtain ⟨_, _, _, _, _, _⟩ := bE3 BK280.out) | ((with_reducible refine gate_callee (f := 20) rfl ?_); refine gL (some 11) Try.func20 #[.agg #[.int .i64 3, .int .i64 7, .int .i64 19]] ?_; (with_reducible refine (spread_Alone.calls k 3 7 19 t283 t284 t285 _ A2.out).mono ?_); rintro e w19 ⟨rfl, hb⟩; refine ⟨_, rfl, ?_⟩; replace BK280 := bY hb BK280; replace HB := aaM (lP (lB HB) hb); (try clear hb); (try clear hb2); (try clear hk); (try clear hi)))
  all_goals (go_ret; exact ⟨by first | rfl | (simp [errW_none, errW_some] <;> rfl) | (simp [*, errW_none, errW_some] <;> rfl) | (simp_all; done), lB HB⟩)

/-! ### hornbeamlaw15_SpreadShift: function 8 -/
-- as it stands
section
variable {P : Program} {ops : Array Oper} {Q : Exit → Act → World → Prop}
/-- A call through a value that holds a function. -/
theorem goesV_ {oi : Oper} {N : Option Tmp} {a : Act} {w : World} {K : Act → World → Prop} {f : FuncId} {fn : Func} {x : Operand} {as_ : Array Operand} {ts : Array TypeId} (hf : P.funcs[f]? = some fn) (hname : (fn.name == "runtime.NumGoroutine") = false) (hb : fn.body.isSome = true) (args : Array Value)
    (hw : Region.wanted oi (yielded ops a.tmps) = true) (hN : oi.dst = N) (hop : oi.op = .call { callee := .value x, args := as_, argTypes := ts }) (hx : a.eval x = .func (.func f) #[] #[]) (hargs : as_.map a.eval = args)
    (h : Calls P f args w fun e w' => ∃ v, e = .returned v ∧ K (a.put N v) w') : if Region.wanted oi (yielded ops a.tmps) = true then Oper.wp P oi a w K Q else K (a.put N undef) w := by
  refine call_ f args hw hN ?_ h
  have he := enters_ hf hname hb args w
  unfold execOp
  simp [hop, resolve, hx, Deferred.ofValue, invoke, hargs, he]
theorem goesVL_ {rest : List Oper} {oi : Oper} {a : Act} {w : World} (N : Option Tmp) (hd : oi.dst = N) (hg : oi.guard = none) {f : FuncId} {fn : Func} {x : Operand} {as_ : Array Operand} {ts : Array TypeId} (hf : P.funcs[f]? = some fn) (hname : (fn.name == "runtime.NumGoroutine") = false) (hb : fn.body.isSome = true) (args : Array Value)
    (hop : oi.op = .call { callee := .value x, args := as_, argTypes := ts }) (hx : a.eval x = .func (.func f) #[] #[]) (hargs : as_.map a.eval = args)
    (h : Calls P f args w fun e w' => ∃ v, e = .returned v ∧ wpList P ops Q rest (a.put N v) w') : wpList P ops Q (oi :: rest) a w := by
  refine wpList_plain hg fun K hK => ?_
  have he := enters_ hf hname hb args w
  have hrun : (execOp a.eval oi).run P w = .ok (.enter f args) w := by
    unfold execOp
    simp [hop, resolve, hx, Deferred.ofValue, invoke, hargs, he]
  unfold Oper.wp
  rw [hrun, Oper.upon_enter]
  refine h.mono fun e w'' hh => ?_
  obtain ⟨v, rfl, hk⟩ := hh
  subst hd
  exact hK _ _ hk
end
def hornbeamlaw15_SpreadShift.mv (t : Int) (l : List Int) : List Int := l.map fun x => wrap64 (x + wrap64 t)
def hornbeamlaw15_SpreadShift.lim3 (k : Nat) (x y z : List Int) (fx rest : Option Bool) : Option Bool := (hornbeamlaw15_limited.f k x).bind fun b => if b = true then (hornbeamlaw15_limited.f k y).bind fun b => if b = true then (hornbeamlaw15_limited.f k z).bind fun b => if b = true then rest else fx else fx else fx
def hornbeamlaw15_SpreadShift.last (k : Nat) (x y z x' y' z' : List Int) : Option Bool := (hornbeamlaw15_fixed.f k).bind fun b => if b = true then (hornbeamlaw15_SpreadShift_1.f k x y z).bind fun o => (hornbeamlaw15_SpreadShift_1.f k x' y' z').bind fun p => some (o == p) else some false
def hornbeamlaw15_SpreadShift.f (k : Nat) (l0_0 l0_1 l0_2 : List Int) (a1 : Int) : Option Bool := hornbeamlaw15_SpreadShift.lim3 k l0_0 l0_1 l0_2 (hornbeamlaw15_fixed.f k)
  (if l0_0.length ≤ 200 ∧ l0_1.length ≤ 200 ∧ l0_2.length ≤ 200 then hornbeamlaw15_SpreadShift.lim3 k (hornbeamlaw15_SpreadShift.mv a1 l0_0) (hornbeamlaw15_SpreadShift.mv a1 l0_1) (hornbeamlaw15_SpreadShift.mv a1 l0_2) (hornbeamlaw15_fixed.f k) (hornbeamlaw15_SpreadShift.last k l0_0 l0_1 l0_2 (hornbeamlaw15_SpreadShift.mv a1 l0_0) (hornbeamlaw15_SpreadShift.mv a1 l0_1) (hornbeamlaw15_SpreadShift.mv a1 l0_2)) else none)
theorem hornbeamlaw15_SpreadShift.ix0 (a b c : Value) (w : World) : (Instr.index 56 (.agg #[a, b, c]) (.int .i64 0)).run Try.prog w = .ok a w := by
  have hs : ∀ w, (sizeOf 22).run Try.prog w = .ok 1 w := fun _ => by kernel_rfl
  simp [Instr.index, run_underlying Try.underlying56, asIntOf, hs, part, go_sem]
theorem hornbeamlaw15_SpreadShift.ix1 (a b c : Value) (w : World) : (Instr.index 56 (.agg #[a, b, c]) (.int .i64 1)).run Try.prog w = .ok b w := by
  have hs : ∀ w, (sizeOf 22).run Try.prog w = .ok 1 w := fun _ => by kernel_rfl
  simp [Instr.index, run_underlying Try.underlying56, asIntOf, hs, part, go_sem]
theorem hornbeamlaw15_SpreadShift.ix2 (a b c : Value) (w : World) : (Instr.index 56 (.agg #[a, b, c]) (.int .i64 2)).run Try.prog w = .ok c w := by
  have hs : ∀ w, (sizeOf 22).run Try.prog w = .ok 1 w := fun _ => by kernel_rfl
  simp [Instr.index, run_underlying Try.underlying56, asIntOf, hs, part, go_sem]
/-- What the law holds in memory: the parts, and the rows that are moved. -/
structure hornbeamlaw15_SpreadShift.Mem (w W : World) (g2 g7 : Nat) (S : Array Value) (V0 V1 V2 : Value) (m0 m1 m2 : List Int) : Prop where
  b2 : W.heap[g2]? = some (.cells S 56 (0, 0))
  b7 : W.heap[g7]? = some (.cells #[V0, V1, V2] 56 (0, 0))
  ne : g2 ≠ g7
  e7 : w.heap.size ≤ g7
  bel : Below w.heap.size w W
  r0 : Kd.R (Kd.int .i64) 2 W w.heap.size (fun _ => True) V0 m0
  r1 : Kd.R (Kd.int .i64) 2 W w.heap.size (fun _ => True) V1 m1
  r2 : Kd.R (Kd.int .i64) 2 W w.heap.size (fun _ => True) V2 m2
  d01 : ∀ k, V0.ownBlock = some k → some k ≠ V1.ownBlock
  d02 : ∀ k, V0.ownBlock = some k → some k ≠ V2.ownBlock
  d12 : ∀ k, V1.ownBlock = some k → some k ≠ V2.ownBlock
theorem hornbeamlaw15_SpreadShift.Mem.below {w W W' : World} {g2 g7 : Nat} {S : Array Value} {V0 V1 V2 : Value} {m0 m1 m2 : List Int} (h : hornbeamlaw15_SpreadShift.Mem w W g2 g7 S V0 V1 V2 m0 m1 m2) (hb : Below W.heap.size W W') : hornbeamlaw15_SpreadShift.Mem w W' g2 g7 S V0 V1 V2 m0 m1 m2 :=
  ⟨blk_below h.b2 hb, blk_below h.b7 hb, h.ne, h.e7, below_step h.bel hb, Kd.R_below h.r0 hb, Kd.R_below h.r1 hb, Kd.R_below h.r2 hb, h.d01, h.d02, h.d12⟩
theorem hornbeamlaw15_SpreadShift.ownsym {u v : Value} (h : ∀ k, u.ownBlock = some k → some k ≠ v.ownBlock) : ∀ k, v.ownBlock = some k → some k ≠ u.ownBlock := fun k e e' => h k e'.symm e.symm
/-- Another row, where one has grown. -/
theorem hornbeamlaw15_SpreadShift.other {W W' : World} {base : Nat} {U V V' : Value} {m : List Int} (hu : Kd.R (Kd.int .i64) 2 W base (fun _ => True) U m) (hg : W.grownBy W' V.ownBlock) (hat : V'.ownBlock = V.ownBlock ∨ ∃ b, V'.ownBlock = some b ∧ W.heap.size ≤ b) (d : ∀ k, V.ownBlock = some k → some k ≠ U.ownBlock) :
    Kd.R (Kd.int .i64) 2 W' base (fun _ => True) U m ∧ ∀ k, V'.ownBlock = some k → some k ≠ U.ownBlock := by
  refine ⟨Kd.R_grown2 hu rfl hg d, fun k e e' => ?_⟩
  rcases hat with h | ⟨b, h, hb⟩
  · exact d k (h.symm.trans e) e'
  · have := Kd.R_lt hu k e'.symm
    rw [h] at e; injection e with e; omega
theorem hornbeamlaw15_SpreadShift.bits20 : waitsOk (rtab .any (opsOf Try.f8 20)).2 [] = true := by kernel_rfl
theorem hornbeamlaw15_SpreadShift.Mem.push0 {w W W' : World} {g2 g7 : Nat} {S : Array Value} {V0 V1 V2 V' : Value} {m0 m1 m2 : List Int} {m' : List Int} (h : hornbeamlaw15_SpreadShift.Mem w W g2 g7 S V0 V1 V2 m0 m1 m2) (ho : Kd.R (Kd.int .i64) 2 W' w.heap.size (fun _ => True) V' m') (hb : Below w.heap.size w W') (hg : W.grownBy W' V0.ownBlock) (hat : V'.ownBlock = V0.ownBlock ∨ ∃ b, V'.ownBlock = some b ∧ W.heap.size ≤ b) :
    W'.heap[g7]? = some (.cells #[V0, V1, V2] 56 (0, 0)) ∧ hornbeamlaw15_SpreadShift.Mem w (W'.setCell ⟨g7, 0, none⟩ V') g2 g7 S V' V1 V2 m' m1 m2 := by
  have b7 := blk_grown h.b7 hg (Kd.R_ne h.r0 h.b7 (by decide))
  have b2 := blk_grown h.b2 hg (Kd.R_ne h.r0 h.b2 (by decide))
  have o1 := hornbeamlaw15_SpreadShift.other h.r1 hg hat h.d01
  have o2 := hornbeamlaw15_SpreadShift.other h.r2 hg hat h.d02
  refine ⟨b7, blk_far b2 h.ne V', blk_put b7 0 V' rfl, h.ne, h.e7, below_set hb h.e7, ?_, ?_, ?_, o1.2, o2.2, h.d12⟩
  · exact Kd.R_set ho b7 (by decide) _ _
  · exact Kd.R_set o1.1 b7 (by decide) _ _
  · exact Kd.R_set o2.1 b7 (by decide) _ _
theorem hornbeamlaw15_SpreadShift.Mem.push1 {w W W' : World} {g2 g7 : Nat} {S : Array Value} {V0 V1 V2 V' : Value} {m0 m1 m2 : List Int} {m' : List Int} (h : hornbeamlaw15_SpreadShift.Mem w W g2 g7 S V0 V1 V2 m0 m1 m2) (ho : Kd.R (Kd.int .i64) 2 W' w.heap.size (fun _ => True) V' m') (hb : Below w.heap.size w W') (hg : W.grownBy W' V1.ownBlock) (hat : V'.ownBlock = V1.ownBlock ∨ ∃ b, V'.ownBlock = some b ∧ W.heap.size ≤ b) :
    W'.heap[g7]? = some (.cells #[V0, V1, V2] 56 (0, 0)) ∧ hornbeamlaw15_SpreadShift.Mem w (W'.setCell ⟨g7, 1, none⟩ V') g2 g7 S V0 V' V2 m0 m' m2 := by
  have b7 := blk_grown h.b7 hg (Kd.R_ne h.r1 h.b7 (by decide))
  have b2 := blk_grown h.b2 hg (Kd.R_ne h.r1 h.b2 (by decide))
  have o0 := hornbeamlaw15_SpreadShift.other h.r0 hg hat (hornbeamlaw15_SpreadShift.ownsym h.d01)
  have o2 := hornbeamlaw15_SpreadShift.other h.r2 hg hat h.d12
  refine ⟨b7, blk_far b2 h.ne V', blk_put b7 1 V' rfl, h.ne, h.e7, below_set hb h.e7, ?_, ?_, ?_, hornbeamlaw15_SpreadShift.ownsym o0.2, h.d02, o2.2⟩
  · exact Kd.R_set o0.1 b7 (by decide) _ _
  · exact Kd.R_set ho b7 (by decide) _ _
  · exact Kd.R_set o2.1 b7 (by decide) _ _
theorem hornbeamlaw15_SpreadShift.Mem.push2 {w W W' : World} {g2 g7 : Nat} {S : Array Value} {V0 V1 V2 V' : Value} {m0 m1 m2 : List Int} {m' : List Int} (h : hornbeamlaw15_SpreadShift.Mem w W g2 g7 S V0 V1 V2 m0 m1 m2) (ho : Kd.R (Kd.int .i64) 2 W' w.heap.size (fun _ => True) V' m') (hb : Below w.heap.size w W') (hg : W.grownBy W' V2.ownBlock) (hat : V'.ownBlock = V2.ownBlock ∨ ∃ b, V'.ownBlock = some b ∧ W.heap.size ≤ b) :
    W'.heap[g7]? = some (.cells #[V0, V1, V2] 56 (0, 0)) ∧ hornbeamlaw15_SpreadShift.Mem w (W'.setCell ⟨g7, 2, none⟩ V') g2 g7 S V0 V1 V' m0 m1 m' := by
  have b7 := blk_grown h.b7 hg (Kd.R_ne h.r2 h.b7 (by decide))
  have b2 := blk_grown h.b2 hg (Kd.R_ne h.r2 h.b2 (by decide))
  have o0 := hornbeamlaw15_SpreadShift.other h.r0 hg hat (hornbeamlaw15_SpreadShift.ownsym h.d02)
  have o1 := hornbeamlaw15_SpreadShift.other h.r1 hg hat (hornbeamlaw15_SpreadShift.ownsym h.d12)
  refine ⟨b7, blk_far b2 h.ne V', blk_put b7 2 V' rfl, h.ne, h.e7, below_set hb h.e7, ?_, ?_, ?_, h.d01, hornbeamlaw15_SpreadShift.ownsym o0.2, hornbeamlaw15_SpreadShift.ownsym o1.2⟩
  · exact Kd.R_set o0.1 b7 (by decide) _ _
  · exact Kd.R_set o1.1 b7 (by decide) _ _
  · exact Kd.R_set ho b7 (by decide) _ _
set_option maxHeartbeats 32000000 in
set_option maxRecDepth 100000 in
theorem hornbeamlaw15_SpreadShift.calls (k : Nat) (A0_0 : Option Addr) (c0_0 : Nat) (l0_0 : List Int) (A0_1 : Option Addr) (c0_1 : Nat) (l0_1 : List Int) (A0_2 : Option Addr) (c0_2 : Nat) (l0_2 : List Int) (a1 : Int) (r : Bool) (w : World) (hr0_0 : Kd.C (Kd.int .i64) w A0_0 l0_0.length l0_0) (hc0_0 : l0_0.length ≤ c0_0) (hr0_1 : Kd.C (Kd.int .i64) w A0_1 l0_1.length l0_1) (hc0_1 : l0_1.length ≤ c0_1) (hr0_2 : Kd.C (Kd.int .i64) w A0_2 l0_2.length l0_2) (hc0_2 : l0_2.length ≤ c0_2) (h : hornbeamlaw15_SpreadShift.f k l0_0 l0_1 l0_2 a1 = some r) (hr_ : r = true) :
    Calls Try.prog 8 #[.agg #[.slice A0_0 l0_0.length c0_0, .slice A0_1 l0_1.length c0_1, .slice A0_2 l0_2.length c0_2], .int .i32 a1] w fun e w' => e = .returned (.bool r) ∧ Below w.heap.size w w' := by
 subst hr_
 have hu56 := Try.underlying56
 have hu22 := Try.underlying22
 have hu21 := Try.underlying21
 have hu2 := Try.underlying2
 have HR0 := aaM hr0_0
 have HC0 := aaM hc0_0
 have HR1 := aaM hr0_1
 have HC1 := aaM hc0_1
 have HR2 := aaM hr0_2
 have HC2 := aaM hc0_2
 clear hr0_0 hc0_0 hr0_1 hc0_1 hr0_2 hc0_2
 have HB := aaM (Below.refl w.heap.size w)
 unfold hornbeamlaw15_SpreadShift.f hornbeamlaw15_SpreadShift.lim3 at h
 obtain ⟨b0, q0, h⟩ := ooB.mp h
 have Q0 := aaM q0
 have H := aaM h
 clear q0 h
 have hix0 := hornbeamlaw15_SpreadShift.ix0 (.slice A0_0 l0_0.length c0_0) (.slice A0_1 l0_1.length c0_1) (.slice A0_2 l0_2.length c0_2)
 have hix1 := hornbeamlaw15_SpreadShift.ix1 (.slice A0_0 l0_0.length c0_0) (.slice A0_1 l0_1.length c0_1) (.slice A0_2 l0_2.length c0_2)
 have hix2 := hornbeamlaw15_SpreadShift.ix2 (.slice A0_0 l0_0.length c0_0) (.slice A0_1 l0_1.length c0_1) (.slice A0_2 l0_2.length c0_2)
 go_enter Try.func8, Try.ntmps8
 go_wp2_with (first | ((with_reducible refine gate_dst (N := 2) rfl ?_); refine bxF w HB 2 #[.slice A0_0 l0_0.length c0_0, .slice A0_1 l0_1.length c0_1, .slice A0_2 l0_2.length c0_2] 56 ?_; intro g2 hg w3 hb BK2 HB GE2; clear hb hg; obtain ⟨hz0, hz1, hz2, hf0, hf1, hf2⟩ := bE3 BK2.out))
 refine wp_loop_rounds 4 ?_
 cases b0 with
 | false =>
  have H1 := H.out
  rw [if_neg (by decide)] at H1
  have HF := aaM H1
  clear H H1
  rw [rounds_succ]
  go_wp2_with (first | ((with_reducible refine gate_callee (f := 13) rfl ?_); refine gL (some 18) Try.func13 #[.slice A0_0 l0_0.length c0_0] ?_; (with_reducible refine (hornbeamlaw15_limited.calls k A0_0 c0_0 l0_0 false _ (ccB HR0.out (lB HB)) HC0.out Q0.out).mono ?_); rintro e w10 ⟨rfl, hd⟩; have hb := hd.below; replace BK2 := bY hb BK2; replace HB := aaM (lP (lB HB) hb); refine ⟨_, rfl, ?_⟩; clear hd hb) | ((with_reducible refine gate_callee (f := 14) rfl ?_); refine gL (some 20) Try.func14 #[] ?_; (with_reducible refine (hornbeamlaw15_fixed.calls k true _ HF.out).mono ?_); rintro e wf ⟨rfl, hb⟩; replace HB := aaM (lP (lB HB) hb); refine ⟨_, rfl, ?_⟩))
  all_goals (go_ret; exact ⟨eF, lB HB⟩)
 | true =>
  have H1 := H.out
  rw [if_pos rfl] at H1
  clear H
  obtain ⟨b1, q1, H1⟩ := ooB.mp H1
  have Q1 := aaM q1
  have H := aaM H1
  clear q1 H1
  rw [rounds_succ]
  go_wp2_with (first | ((with_reducible refine gate_callee (f := 13) rfl ?_); refine gL (some 18) Try.func13 #[.slice A0_0 l0_0.length c0_0] ?_; (with_reducible refine (hornbeamlaw15_limited.calls k A0_0 c0_0 l0_0 true _ (ccB HR0.out (lB HB)) HC0.out Q0.out).mono ?_); rintro e w10 ⟨rfl, hd⟩; have hb := hd.below; replace BK2 := bY hb BK2; replace HB := aaM (lP (lB HB) hb); refine ⟨_, rfl, ?_⟩; clear hd hb))
  obtain ⟨hz3, hz4, hz5, _, _, _⟩ := bE3 BK2.out
  cases b1 with
  | false =>
   have H1 := H.out
   rw [if_neg (by decide)] at H1
   have HF := aaM H1
   clear H H1
   rw [rounds_succ]
   go_wp2_with (first | ((with_reducible refine gate_callee (f := 13) rfl ?_); refine gL (some 18) Try.func13 #[.slice A0_1 l0_1.length c0_1] ?_; (with_reducible refine (hornbeamlaw15_limited.calls k A0_1 c0_1 l0_1 false _ (ccB HR1.out (lB HB)) HC1.out Q1.out).mono ?_); rintro e w11 ⟨rfl, hd⟩; have hb := hd.below; replace BK2 := bY hb BK2; replace HB := aaM (lP (lB HB) hb); refine ⟨_, rfl, ?_⟩; clear hd hb) | ((with_reducible refine gate_callee (f := 14) rfl ?_); refine gL (some 20) Try.func14 #[] ?_; (with_reducible refine (hornbeamlaw15_fixed.calls k true _ HF.out).mono ?_); rintro e wf ⟨rfl, hb⟩; replace HB := aaM (lP (lB HB) hb); refine ⟨_, rfl, ?_⟩))
   all_goals (go_ret; exact ⟨eF, lB HB⟩)
  | true =>
   have H1 := H.out
   rw [if_pos rfl] at H1
   clear H
   obtain ⟨b2, q2, H1⟩ := ooB.mp H1
   have Q2 := aaM q2
   have H := aaM H1
   clear q2 H1
   rw [rounds_succ]
   go_wp2_with (first | ((with_reducible refine gate_callee (f := 13) rfl ?_); refine gL (some 18) Try.func13 #[.slice A0_1 l0_1.length c0_1] ?_; (with_reducible refine (hornbeamlaw15_limited.calls k A0_1 c0_1 l0_1 true _ (ccB HR1.out (lB HB)) HC1.out Q1.out).mono ?_); rintro e w11 ⟨rfl, hd⟩; have hb := hd.below; replace BK2 := bY hb BK2; replace HB := aaM (lP (lB HB) hb); refine ⟨_, rfl, ?_⟩; clear hd hb))
   obtain ⟨hz6, hz7, hz8, _, _, _⟩ := bE3 BK2.out
   cases b2 with
   | false =>
    have H1 := H.out
    rw [if_neg (by decide)] at H1
    have HF := aaM H1
    clear H H1
    rw [rounds_succ]
    go_wp2_with (first | ((with_reducible refine gate_callee (f := 13) rfl ?_); refine gL (some 18) Try.func13 #[.slice A0_2 l0_2.length c0_2] ?_; (with_reducible refine (hornbeamlaw15_limited.calls k A0_2 c0_2 l0_2 false _ (ccB HR2.out (lB HB)) HC2.out Q2.out).mono ?_); rintro e w12 ⟨rfl, hd⟩; have hb := hd.below; replace BK2 := bY hb BK2; replace HB := aaM (lP (lB HB) hb); refine ⟨_, rfl, ?_⟩; clear hd hb) | ((with_reducible refine gate_callee (f := 14) rfl ?_); refine gL (some 20) Try.func14 #[] ?_; (with_reducible refine (hornbeamlaw15_fixed.calls k true _ HF.out).mono ?_); rintro e wf ⟨rfl, hb⟩; replace HB := aaM (lP (lB HB) hb); refine ⟨_, rfl, ?_⟩))
    all_goals (go_ret; exact ⟨eF, lB HB⟩)
   | true =>
    have H1 := H.out
    rw [if_pos rfl] at H1
    clear H
    by_cases hl : l0_0.length ≤ 200 ∧ l0_1.length ≤ 200 ∧ l0_2.length ≤ 200
    rotate_left
    · rw [if_neg hl] at H1; cases H1
    rw [if_pos hl] at H1
    have HL := aaM hl
    obtain ⟨b3, q3, H1⟩ := ooB.mp H1
    have Q3 := aaM q3
    have H := aaM H1
    clear q3 H1 hl
    rw [rounds_succ]
    go_wp2_with (first | ((with_reducible refine gate_callee (f := 13) rfl ?_); refine gL (some 18) Try.func13 #[.slice A0_2 l0_2.length c0_2] ?_; (with_reducible refine (hornbeamlaw15_limited.calls k A0_2 c0_2 l0_2 true _ (ccB HR2.out (lB HB)) HC2.out Q2.out).mono ?_); rintro e w12 ⟨rfl, hd⟩; have hb := hd.below; replace BK2 := bY hb BK2; replace HB := aaM (lP (lB HB) hb); refine ⟨_, rfl, ?_⟩; clear hd hb))
    rw [rounds_succ]
    obtain ⟨hy0, hy1, hy2, _, _, _⟩ := bE3 BK2.out
    go_wp2_with (first | ((with_reducible refine gate_dst (N := 7) rfl ?_); refine bxF w HB 7 #[.slice none 0 0, .slice none 0 0, .slice none 0 0] 56 ?_; intro g7 hg w20 hb BK7 HB GE7; obtain ⟨NB27, NB72⟩ := nS hg BK2; replace BK2 := bY hb BK2; clear hb hg; obtain ⟨hx0, hx1, hx2, _, _, _⟩ := bE3 BK2.out))
    have M : Aside0 (hornbeamlaw15_SpreadShift.Mem w w20 g2 g7 #[.slice A0_0 l0_0.length c0_0, .slice A0_1 l0_1.length c0_1, .slice A0_2 l0_2.length c0_2] (.slice none 0 0) (.slice none 0 0) (.slice none 0 0) [] [] []) := ⟨⟨BK2.out, BK7.out, NB27.out, GE7.out, HB.out, Kd.R_nil _ _ _ _ _, Kd.R_nil _ _ _ _ _, Kd.R_nil _ _ _ _ _, fun _ e => (by cases e), fun _ e => (by cases e), fun _ e => (by cases e)⟩⟩
    clear BK2 BK7 NB27 NB72 HB
    refine wp_loop_rounds 4 ?_
    rw [rounds_succ]
    obtain ⟨_, _, _, _, _, _⟩ := bE3 M.out.b2
    go_wp2
    go_loopw [29] (fun v29 w' => ∃ (x : Int) (V : Value), v29 = .int .i64 x ∧ Aside0 (0 ≤ x ∧ x ≤ (l0_0.length : Int)) ∧ Aside0 (hornbeamlaw15_SpreadShift.Mem w w' g2 g7 #[.slice A0_0 l0_0.length c0_0, .slice A0_1 l0_1.length c0_1, .slice A0_2 l0_2.length c0_2] V (.slice none 0 0) (.slice none 0 0) (hornbeamlaw15_SpreadShift.mv a1 (l0_0.take x.toNat)) [] [])) (fun v29 _ => l0_0.length - (intOf v29).toNat)
    case atStart => exact ⟨0, .slice none 0 0, rfl, ⟨by omega, by omega⟩, ⟨M.out⟩⟩
    case round =>
     clear M
     obtain ⟨x, V, rfl, HK, M⟩ := hrel
     by_cases hlt : x < (l0_0.length : Int)
     · have HLT := aaM hlt
       have hltb : decide (x < (l0_0.length : Int)) = true := decide_eq_true hlt
       have h0b : decide (0 ≤ x) = true := decide_eq_true HK.out.1
       have HM : Aside0 (wrap64 (x + 1) = x + 1) := ⟨by have := HL.out; have := HK.out; unfold wrap64; omega⟩
       have HT : Aside0 (hornbeamlaw15_SpreadShift.mv a1 (l0_0.take (x + 1).toNat) = hornbeamlaw15_SpreadShift.mv a1 (l0_0.take x.toNat) ++ [wrap64 (rd l0_0 x + wrap64 a1)]) := ⟨by
          obtain ⟨i, rfl⟩ := Int.eq_ofNat_of_zero_le HK.out.1
          rw [show ((i : Int) + 1).toNat = i + 1 by omega, show ((i : Nat) : Int).toNat = i from rfl, List.take_succ_eq_append_getElem (show i < l0_0.length by omega)]
          rw [hornbeamlaw15_SpreadShift.mv, hornbeamlaw15_SpreadShift.mv, List.map_append, List.map_cons, List.map_nil, show rd l0_0 (i : Int) = l0_0[i]'(by omega) by simp [rd, List.getD, show i < l0_0.length by omega]]⟩
       obtain ⟨ad, e, hx_0⟩ := Kd.at_int HR0.out x HK.out.1 hlt
       cases e
       replace hx_0 := (M.out.bel.cell (World.block_lt_of_cell? w _ hx_0)).trans hx_0
       have p1 := eq_true HK.out.1
       have q1 := eq_true hlt
       obtain ⟨hv0, hv1, hv2, hw0, hw1, hw2⟩ := bE3 M.out.b7
       clear hlt
       go_wp2_with (first | ((with_reducible refine gate_builtin (b := .append) (xs := #[.tmp 36, .tmp 41]) rfl ?_); at_builtin; refine Kd.R_append (Kd.int .i64) (w0 := w) w.heap.size rfl (.tmp 36) (.tmp 41) 22 2 (.int .i64 0) 8 rfl Try.underlying22 info2 rfl (by decide) (by omega) V (hornbeamlaw15_SpreadShift.mv a1 (l0_0.take x.toNat)) (wrap64 (rd l0_0 x + wrap64 a1)) [.int .i64 (wrap64 (rd l0_0 x + wrap64 a1))] (fun _ => True) (fun _ => False) rfl rfl ?aP (fun _ hk => hk.elim) ?aF ?aO ?aB ?aS ?aL ?_; (case aP => exact rfl); (case aF => exact (fun _ _ => trivial)); (case aO => exact M.out.r0); (case aB => exact M.out.bel); (case aS => exact below_size M.out.bel); (case aL => have := HL.out; have := HK.out; have := HLT.out; simp [hornbeamlaw15_SpreadShift.mv]; omega); intro V2_ w2 ho hb hg hat; generalize hm_ : (hornbeamlaw15_SpreadShift.mv a1 (l0_0.take x.toNat) ++ [wrap64 (rd l0_0 x + wrap64 a1)]) = m_ at ho; have HM_ := aaM hm_; clear hm_; obtain ⟨A2_, c2_, e2_⟩ := Kd.R_slice ho; subst e2_; have hq := M.out.push0 ho hb hg hat; have M2 := aaM hq.2; obtain ⟨hv0_, hv1_, hv2_, hw0_, hw1_, hw2_⟩ := bE3 hq.1; clear hq ho hb hg hat))
       go_roundw
       case rel => exact ⟨_, _, rfl, ⟨by rw [HM.out]; have := HK.out; omega, by rw [HM.out]; have := HLT.out; omega⟩, ⟨by rw [HM.out, HT.out, HM_.out]; exact M2.out⟩⟩
       case measure => have := HK.out; have := HLT.out; have := HM.out; simp only [intOf]; first | omega | (simp [intOf]; omega)
     · have hltb : decide (x < (l0_0.length : Int)) = false := decide_eq_false hlt
       have hxe : x = (l0_0.length : Int) := by have := HK.out; omega
       subst hxe
       rw [show l0_0.take ((l0_0.length : Int)).toNat = l0_0 by simp] at M
       obtain ⟨Av, cv, ev⟩ := Kd.R_slice M.out.r0
       subst ev
       have hrd := Kd.R_reads' M.out.r0
       have HRV := aaM hrd.2.2
       have HCV := aaM (show (hornbeamlaw15_SpreadShift.mv a1 l0_0).length ≤ cv by rw [← hrd.1]; exact hrd.2.1)
       clear hlt hrd
       obtain ⟨hv0, hv1, hv2, _, _, _⟩ := bE3 M.out.b7
       cases b3 with
       | false =>
        have H1 := H.out
        rw [if_neg (by decide)] at H1
        have HF := aaM H1
        clear H H1
        go_wp2_with (first | ((with_reducible refine gate_callee (f := 13) rfl ?_); refine gL (some 48) Try.func13 #[.slice Av (hornbeamlaw15_SpreadShift.mv a1 l0_0).length cv] ?_; (with_reducible refine (hornbeamlaw15_limited.calls k Av cv (hornbeamlaw15_SpreadShift.mv a1 l0_0) false _ HRV.out HCV.out Q3.out).mono ?_); rintro e wl ⟨rfl, hd⟩; have hb := hd.below; replace M := aaM (M.out.below hb); refine ⟨_, rfl, ?_⟩; clear hd hb) | ((with_reducible refine gate_callee (f := 14) rfl ?_); refine gL (some 50) Try.func14 #[] ?_; (with_reducible refine (hornbeamlaw15_fixed.calls k true _ HF.out).mono ?_); rintro e wf ⟨rfl, hb⟩; have HB := aaM (M.out.below hb).bel; refine ⟨_, rfl, ?_⟩))
        all_goals (go_ret; exact ⟨eF, lB HB⟩)
       | true =>
        have H1 := H.out
        rw [if_pos rfl] at H1
        clear H
        obtain ⟨b4, q4, H1⟩ := ooB.mp H1
        have Q4 := aaM q4
        have H := aaM H1
        clear q4 H1
        go_wp2_with (first | ((with_reducible refine gate_callee (f := 13) rfl ?_); refine gL (some 48) Try.func13 #[.slice Av (hornbeamlaw15_SpreadShift.mv a1 l0_0).length cv] ?_; (with_reducible refine (hornbeamlaw15_limited.calls k Av cv (hornbeamlaw15_SpreadShift.mv a1 l0_0) true _ HRV.out HCV.out Q3.out).mono ?_); rintro e wl ⟨rfl, hd⟩; have hb := hd.below; replace M := aaM (M.out.below hb); refine ⟨_, rfl, ?_⟩; clear hd hb))
        clear HRV HCV
        generalize hV0 : Value.slice Av (List.length (hornbeamlaw15_SpreadShift.mv a1 l0_0)) cv = V0 at M
        clear hV0 hv0 hv1 hv2 hltb
        rw [rounds_succ]
        obtain ⟨_, _, _, _, _, _⟩ := bE3 M.out.b2
        go_wp2
        go_loopw [29] (fun v29 w' => ∃ (x : Int) (V : Value), v29 = .int .i64 x ∧ Aside0 (0 ≤ x ∧ x ≤ (l0_1.length : Int)) ∧ Aside0 (hornbeamlaw15_SpreadShift.Mem w w' g2 g7 #[.slice A0_0 l0_0.length c0_0, .slice A0_1 l0_1.length c0_1, .slice A0_2 l0_2.length c0_2] V0 V (.slice none 0 0) (hornbeamlaw15_SpreadShift.mv a1 l0_0) (hornbeamlaw15_SpreadShift.mv a1 (l0_1.take x.toNat)) [])) (fun v29 _ => l0_1.length - (intOf v29).toNat)
        case atStart => exact ⟨0, .slice none 0 0, rfl, ⟨by omega, by omega⟩, ⟨M.out⟩⟩
        case round =>
         clear M
         obtain ⟨x, V, rfl, HK, M⟩ := hrel
         by_cases hlt : x < (l0_1.length : Int)
         · have HLT := aaM hlt
           have hltb : decide (x < (l0_1.length : Int)) = true := decide_eq_true hlt
           have h0b : decide (0 ≤ x) = true := decide_eq_true HK.out.1
           have HM : Aside0 (wrap64 (x + 1) = x + 1) := ⟨by have := HL.out; have := HK.out; unfold wrap64; omega⟩
           have HT : Aside0 (hornbeamlaw15_SpreadShift.mv a1 (l0_1.take (x + 1).toNat) = hornbeamlaw15_SpreadShift.mv a1 (l0_1.take x.toNat) ++ [wrap64 (rd l0_1 x + wrap64 a1)]) := ⟨by
              obtain ⟨i, rfl⟩ := Int.eq_ofNat_of_zero_le HK.out.1
              rw [show ((i : Int) + 1).toNat = i + 1 by omega, show ((i : Nat) : Int).toNat = i from rfl, List.take_succ_eq_append_getElem (show i < l0_1.length by omega)]
              rw [hornbeamlaw15_SpreadShift.mv, hornbeamlaw15_SpreadShift.mv, List.map_append, List.map_cons, List.map_nil, show rd l0_1 (i : Int) = l0_1[i]'(by omega) by simp [rd, List.getD, show i < l0_1.length by omega]]⟩
           obtain ⟨ad, e, hx_0⟩ := Kd.at_int HR1.out x HK.out.1 hlt
           cases e
           replace hx_0 := (M.out.bel.cell (World.block_lt_of_cell? w _ hx_0)).trans hx_0
           have p1 := eq_true HK.out.1
           have q1 := eq_true hlt
           obtain ⟨hv0, hv1, hv2, hw0, hw1, hw2⟩ := bE3 M.out.b7
           clear hlt
           go_wp2_with (first | ((with_reducible refine gate_builtin (b := .append) (xs := #[.tmp 36, .tmp 41]) rfl ?_); at_builtin; refine Kd.R_append (Kd.int .i64) (w0 := w) w.heap.size rfl (.tmp 36) (.tmp 41) 22 2 (.int .i64 0) 8 rfl Try.underlying22 info2 rfl (by decide) (by omega) V (hornbeamlaw15_SpreadShift.mv a1 (l0_1.take x.toNat)) (wrap64 (rd l0_1 x + wrap64 a1)) [.int .i64 (wrap64 (rd l0_1 x + wrap64 a1))] (fun _ => True) (fun _ => False) rfl rfl ?aP (fun _ hk => hk.elim) ?aF ?aO ?aB ?aS ?aL ?_; (case aP => exact rfl); (case aF => exact (fun _ _ => trivial)); (case aO => exact M.out.r1); (case aB => exact M.out.bel); (case aS => exact below_size M.out.bel); (case aL => have := HL.out; have := HK.out; have := HLT.out; simp [hornbeamlaw15_SpreadShift.mv]; omega); intro V2_ w2 ho hb hg hat; generalize hm_ : (hornbeamlaw15_SpreadShift.mv a1 (l0_1.take x.toNat) ++ [wrap64 (rd l0_1 x + wrap64 a1)]) = m_ at ho; have HM_ := aaM hm_; clear hm_; obtain ⟨A2_, c2_, e2_⟩ := Kd.R_slice ho; subst e2_; have hq := M.out.push1 ho hb hg hat; have M2 := aaM hq.2; obtain ⟨hv0_, hv1_, hv2_, hw0_, hw1_, hw2_⟩ := bE3 hq.1; clear hq ho hb hg hat))
           go_roundw
           case rel => exact ⟨_, _, rfl, ⟨by rw [HM.out]; have := HK.out; omega, by rw [HM.out]; have := HLT.out; omega⟩, ⟨by rw [HM.out, HT.out, HM_.out]; exact M2.out⟩⟩
           case measure => have := HK.out; have := HLT.out; have := HM.out; simp only [intOf]; first | omega | (simp [intOf]; omega)
         · have hltb : decide (x < (l0_1.length : Int)) = false := decide_eq_false hlt
           have hxe : x = (l0_1.length : Int) := by have := HK.out; omega
           subst hxe
           rw [show l0_1.take ((l0_1.length : Int)).toNat = l0_1 by simp] at M
           obtain ⟨Av, cv, ev⟩ := Kd.R_slice M.out.r1
           subst ev
           have hrd := Kd.R_reads' M.out.r1
           have HRV := aaM hrd.2.2
           have HCV := aaM (show (hornbeamlaw15_SpreadShift.mv a1 l0_1).length ≤ cv by rw [← hrd.1]; exact hrd.2.1)
           clear hlt hrd
           obtain ⟨hv0, hv1, hv2, _, _, _⟩ := bE3 M.out.b7
           cases b4 with
           | false =>
            have H1 := H.out
            rw [if_neg (by decide)] at H1
            have HF := aaM H1
            clear H H1
            go_wp2_with (first | ((with_reducible refine gate_callee (f := 13) rfl ?_); refine gL (some 48) Try.func13 #[.slice Av (hornbeamlaw15_SpreadShift.mv a1 l0_1).length cv] ?_; (with_reducible refine (hornbeamlaw15_limited.calls k Av cv (hornbeamlaw15_SpreadShift.mv a1 l0_1) false _ HRV.out HCV.out Q4.out).mono ?_); rintro e wl ⟨rfl, hd⟩; have hb := hd.below; replace M := aaM (M.out.below hb); refine ⟨_, rfl, ?_⟩; clear hd hb) | ((with_reducible refine gate_callee (f := 14) rfl ?_); refine gL (some 50) Try.func14 #[] ?_; (with_reducible refine (hornbeamlaw15_fixed.calls k true _ HF.out).mono ?_); rintro e wf ⟨rfl, hb⟩; have HB := aaM (M.out.below hb).bel; refine ⟨_, rfl, ?_⟩))
            all_goals (go_ret; exact ⟨eF, lB HB⟩)
           | true =>
            have H1 := H.out
            rw [if_pos rfl] at H1
            clear H
            obtain ⟨b5, q5, H1⟩ := ooB.mp H1
            have Q5 := aaM q5
            have H := aaM H1
            clear q5 H1
            go_wp2_with (first | ((with_reducible refine gate_callee (f := 13) rfl ?_); refine gL (some 48) Try.func13 #[.slice Av (hornbeamlaw15_SpreadShift.mv a1 l0_1).length cv] ?_; (with_reducible refine (hornbeamlaw15_limited.calls k Av cv (hornbeamlaw15_SpreadShift.mv a1 l0_1) true _ HRV.out HCV.out Q4.out).mono ?_); rintro e wl ⟨rfl, hd⟩; have hb := hd.below; replace M := aaM (M.out.below hb); refine ⟨_, rfl, ?_⟩; clear hd hb))
            clear HRV HCV
            generalize hV1 : Value.slice Av (List.length (hornbeamlaw15_SpreadShift.mv a1 l0_1)) cv = V1 at M
            clear hV1 hv0 hv1 hv2 hltb
            rw [rounds_succ]
            obtain ⟨_, _, _, _, _, _⟩ := bE3 M.out.b2
            go_wp2
            go_loopw [29] (fun v29 w' => ∃ (x : Int) (V : Value), v29 = .int .i64 x ∧ Aside0 (0 ≤ x ∧ x ≤ (l0_2.length : Int)) ∧ Aside0 (hornbeamlaw15_SpreadShift.Mem w w' g2 g7 #[.slice A0_0 l0_0.length c0_0, .slice A0_1 l0_1.length c0_1, .slice A0_2 l0_2.length c0_2] V0 V1 V (hornbeamlaw15_SpreadShift.mv a1 l0_0) (hornbeamlaw15_SpreadShift.mv a1 l0_1) (hornbeamlaw15_SpreadShift.mv a1 (l0_2.take x.toNat)))) (fun v29 _ => l0_2.length - (intOf v29).toNat)
            case atStart => exact ⟨0, .slice none 0 0, rfl, ⟨by omega, by omega⟩, ⟨M.out⟩⟩
            case round =>
             clear M
             obtain ⟨x, V, rfl, HK, M⟩ := hrel
             by_cases hlt : x < (l0_2.length : Int)
             · have HLT := aaM hlt
               have hltb : decide (x < (l0_2.length : Int)) = true := decide_eq_true hlt
               have h0b : decide (0 ≤ x) = true := decide_eq_true HK.out.1
               have HM : Aside0 (wrap64 (x + 1) = x + 1) := ⟨by have := HL.out; have := HK.out; unfold wrap64; omega⟩
               have HT : Aside0 (hornbeamlaw15_SpreadShift.mv a1 (l0_2.take (x + 1).toNat) = hornbeamlaw15_SpreadShift.mv a1 (l0_2.take x.toNat) ++ [wrap64 (rd l0_2 x + wrap64 a1)]) := ⟨by
                  obtain ⟨i, rfl⟩ := Int.eq_ofNat_of_zero_le HK.out.1
                  rw [show ((i : Int) + 1).toNat = i + 1 by omega, show ((i : Nat) : Int).toNat = i from rfl, List.take_succ_eq_append_getElem (show i < l0_2.length by omega)]
                  rw [hornbeamlaw15_SpreadShift.mv, hornbeamlaw15_SpreadShift.mv, List.map_append, List.map_cons, List.map_nil, show rd l0_2 (i : Int) = l0_2[i]'(by omega) by simp [rd, List.getD, show i < l0_2.length by omega]]⟩
               obtain ⟨ad, e, hx_0⟩ := Kd.at_int HR2.out x HK.out.1 hlt
               cases e
               replace hx_0 := (M.out.bel.cell (World.block_lt_of_cell? w _ hx_0)).trans hx_0
               have p1 := eq_true HK.out.1
               have q1 := eq_true hlt
               obtain ⟨hv0, hv1, hv2, hw0, hw1, hw2⟩ := bE3 M.out.b7
               clear hlt
               go_wp2_with (first | ((with_reducible refine gate_builtin (b := .append) (xs := #[.tmp 36, .tmp 41]) rfl ?_); at_builtin; refine Kd.R_append (Kd.int .i64) (w0 := w) w.heap.size rfl (.tmp 36) (.tmp 41) 22 2 (.int .i64 0) 8 rfl Try.underlying22 info2 rfl (by decide) (by omega) V (hornbeamlaw15_SpreadShift.mv a1 (l0_2.take x.toNat)) (wrap64 (rd l0_2 x + wrap64 a1)) [.int .i64 (wrap64 (rd l0_2 x + wrap64 a1))] (fun _ => True) (fun _ => False) rfl rfl ?aP (fun _ hk => hk.elim) ?aF ?aO ?aB ?aS ?aL ?_; (case aP => exact rfl); (case aF => exact (fun _ _ => trivial)); (case aO => exact M.out.r2); (case aB => exact M.out.bel); (case aS => exact below_size M.out.bel); (case aL => have := HL.out; have := HK.out; have := HLT.out; simp [hornbeamlaw15_SpreadShift.mv]; omega); intro V2_ w2 ho hb hg hat; generalize hm_ : (hornbeamlaw15_SpreadShift.mv a1 (l0_2.take x.toNat) ++ [wrap64 (rd l0_2 x + wrap64 a1)]) = m_ at ho; have HM_ := aaM hm_; clear hm_; obtain ⟨A2_, c2_, e2_⟩ := Kd.R_slice ho; subst e2_; have hq := M.out.push2 ho hb hg hat; have M2 := aaM hq.2; obtain ⟨hv0_, hv1_, hv2_, hw0_, hw1_, hw2_⟩ := bE3 hq.1; clear hq ho hb hg hat))
               go_roundw
               case rel => exact ⟨_, _, rfl, ⟨by rw [HM.out]; have := HK.out; omega, by rw [HM.out]; have := HLT.out; omega⟩, ⟨by rw [HM.out, HT.out, HM_.out]; exact M2.out⟩⟩
               case measure => have := HK.out; have := HLT.out; have := HM.out; simp only [intOf]; first | omega | (simp [intOf]; omega)
             · have hltb : decide (x < (l0_2.length : Int)) = false := decide_eq_false hlt
               have hxe : x = (l0_2.length : Int) := by have := HK.out; omega
               subst hxe
               rw [show l0_2.take ((l0_2.length : Int)).toNat = l0_2 by simp] at M
               obtain ⟨Av, cv, ev⟩ := Kd.R_slice M.out.r2
               subst ev
               have hrd := Kd.R_reads' M.out.r2
               have HRV := aaM hrd.2.2
               have HCV := aaM (show (hornbeamlaw15_SpreadShift.mv a1 l0_2).length ≤ cv by rw [← hrd.1]; exact hrd.2.1)
               clear hlt hrd
               obtain ⟨hv0, hv1, hv2, _, _, _⟩ := bE3 M.out.b7
               cases b5 with
               | false =>
                have H1 := H.out
                rw [if_neg (by decide)] at H1
                have HF := aaM H1
                clear H H1
                go_wp2_with (first | ((with_reducible refine gate_callee (f := 13) rfl ?_); refine gL (some 48) Try.func13 #[.slice Av (hornbeamlaw15_SpreadShift.mv a1 l0_2).length cv] ?_; (with_reducible refine (hornbeamlaw15_limited.calls k Av cv (hornbeamlaw15_SpreadShift.mv a1 l0_2) false _ HRV.out HCV.out Q5.out).mono ?_); rintro e wl ⟨rfl, hd⟩; have hb := hd.below; replace M := aaM (M.out.below hb); refine ⟨_, rfl, ?_⟩; clear hd hb) | ((with_reducible refine gate_callee (f := 14) rfl ?_); refine gL (some 50) Try.func14 #[] ?_; (with_reducible refine (hornbeamlaw15_fixed.calls k true _ HF.out).mono ?_); rintro e wf ⟨rfl, hb⟩; have HB := aaM (M.out.below hb).bel; refine ⟨_, rfl, ?_⟩))
                all_goals (go_ret; exact ⟨eF, lB HB⟩)
               | true =>
                have H1 := H.out
                rw [if_pos rfl] at H1
                clear H
                have H := aaM H1
                clear H1
                go_wp2_with (first | ((with_reducible refine gate_callee (f := 13) rfl ?_); refine gL (some 48) Try.func13 #[.slice Av (hornbeamlaw15_SpreadShift.mv a1 l0_2).length cv] ?_; (with_reducible refine (hornbeamlaw15_limited.calls k Av cv (hornbeamlaw15_SpreadShift.mv a1 l0_2) true _ HRV.out HCV.out Q5.out).mono ?_); rintro e wl ⟨rfl, hd⟩; have hb := hd.below; replace M := aaM (M.out.below hb); refine ⟨_, rfl, ?_⟩; clear hd hb))
                clear HRV HCV
                generalize hV2 : Value.slice Av (List.length (hornbeamlaw15_SpreadShift.mv a1 l0_2)) cv = V2 at M
                clear hV2 hv0 hv1 hv2 hltb
                rw [rounds_succ]
                go_wp2
                have H1 := H.out
                unfold hornbeamlaw15_SpreadShift.last at H1
                obtain ⟨bf, qf, H1⟩ := ooB.mp H1
                cases bf with
                | false => rw [if_neg (by decide)] at H1; cases H1
                | true =>
                 rw [if_pos rfl] at H1
                 obtain ⟨o, qo, H1⟩ := ooB.mp H1
                 obtain ⟨o2, qp, H1⟩ := ooB.mp H1
                 have he : o = o2 := by simpa using H1
                 subst he
                 have QF := aaM qf
                 have QO := aaM qo
                 have QP := aaM qp
                 clear qf qo qp H1 H hix0 hix1 hix2
                 obtain ⟨B0, d0, e0⟩ := Kd.R_slice M.out.r0
                 subst e0
                 obtain ⟨B1, d1, e1⟩ := Kd.R_slice M.out.r1
                 subst e1
                 obtain ⟨B2, d2, e2⟩ := Kd.R_slice M.out.r2
                 subst e2
                 replace M := aaM (M.out.below (lD (Below.refl _ _)))
                 have BK2 := aaM M.out.b2; have BK7 := aaM M.out.b7
                 refine start_ (n := 11) (S := fun w' => w'.cell? ⟨g2, 0, none⟩ = some (.slice A0_0 l0_0.length c0_0) ∧ w'.cell? ⟨g2, 1, none⟩ = some (.slice A0_1 l0_1.length c0_1) ∧ w'.cell? ⟨g2, 2, none⟩ = some (.slice A0_2 l0_2.length c0_2) ∧ w'.cell? ⟨g7, 0, none⟩ = some (.slice B0 (hornbeamlaw15_SpreadShift.mv a1 l0_0).length d0) ∧ w'.cell? ⟨g7, 1, none⟩ = some (.slice B1 (hornbeamlaw15_SpreadShift.mv a1 l0_1).length d1) ∧ w'.cell? ⟨g7, 2, none⟩ = some (.slice B2 (hornbeamlaw15_SpreadShift.mv a1 l0_2).length d2)) (ds := []) _ (by kernel_rfl) rfl rfl hD (fun hHeld => ?_); refine with_tabW (T := rtab .any (opsOf Try.f8 20)) (B := []) (by kernel_rfl) hornbeamlaw15_SpreadShift.bits20 (fun HT_ HW_ => ?_)
                 generalize wl.drew = w30 at M BK2 BK7 hHeld ⊢
                 clear BK2 BK7
                 refine oU 0 (some 52) (qB 11 1) HT_ (fun K hK => ?_); refine gU Try.func14 #[] ?_; (with_reducible refine (hornbeamlaw15_fixed.calls k true _ QF.out).mono ?_); rintro e w31 ⟨rfl, hb⟩; refine ⟨_, rfl, ?_⟩; replace M := aaM (M.out.below hb); clear hb; have BK2 := aaM M.out.b2; have BK7 := aaM M.out.b7; refine hK.out _ _ hD (fun hHeld => ?_); clear hK K BK2 BK7; refine nU 52 ?_
                 refine pU 1 53 (qB 11 3) HT_ ?_
                 refine pU 2 54 (qB 11 7) HT_ ?_
                 refine pU 5 57 (qB 11 39) HT_ ?_
                 refine tU 3 55 (qB 11 47) HT_ HW_ hHeld ?_
                 refine tU 6 58 (qB 11 111) HT_ HW_ hHeld ?_
                 refine oU 4 (some 56) (qB 11 127) HT_ (fun K hK => ?_); refine goesV_ Try.func27 (by kernel_rfl) rfl #[.agg #[.slice A0_0 l0_0.length c0_0, .slice A0_1 l0_1.length c0_1, .slice A0_2 l0_2.length c0_2]] (by exact rfl) rfl rfl rfl mG ?_; (with_reducible refine (hornbeamlaw15_SpreadShift_1.calls k A0_0 c0_0 l0_0 A0_1 c0_1 l0_1 A0_2 c0_2 l0_2 o _ (ccB HR0.out M.out.bel) HC0.out (ccB HR1.out M.out.bel) HC1.out (ccB HR2.out M.out.bel) HC2.out QO.out).mono ?_); rintro e w32 ⟨rfl, hb⟩; refine ⟨_, rfl, ?_⟩; replace M := aaM (M.out.below hb); clear hb; have BK2 := aaM M.out.b2; have BK7 := aaM M.out.b7; refine hK.out _ _ hD (fun hHeld => ?_); clear hK K BK2 BK7; refine nU 56 ?_
                 refine oU 7 (some 59) (qB 11 255) HT_ (fun K hK => ?_); refine goesV_ Try.func27 (by kernel_rfl) rfl #[.agg #[.slice B0 (hornbeamlaw15_SpreadShift.mv a1 l0_0).length d0, .slice B1 (hornbeamlaw15_SpreadShift.mv a1 l0_1).length d1, .slice B2 (hornbeamlaw15_SpreadShift.mv a1 l0_2).length d2]] (by exact rfl) rfl rfl rfl mG ?_; (with_reducible refine (hornbeamlaw15_SpreadShift_1.calls k B0 d0 (hornbeamlaw15_SpreadShift.mv a1 l0_0) B1 d1 (hornbeamlaw15_SpreadShift.mv a1 l0_1) B2 d2 (hornbeamlaw15_SpreadShift.mv a1 l0_2) o _ (Kd.R_reads' M.out.r0).2.2 (Kd.R_reads' M.out.r0).2.1 (Kd.R_reads' M.out.r1).2.2 (Kd.R_reads' M.out.r1).2.1 (Kd.R_reads' M.out.r2).2.2 (Kd.R_reads' M.out.r2).2.1 QP.out).mono ?_); rintro e w33 ⟨rfl, hb⟩; refine ⟨_, rfl, ?_⟩; replace M := aaM (M.out.below hb); clear hb; have BK2 := aaM M.out.b2; have BK7 := aaM M.out.b7; refine hK.out _ _ hD (fun hHeld => ?_); clear hK K BK2 BK7; refine nU 59 ?_
                 refine pU 8 60 (qB 11 511) HT_ ?_
                 refine pU 9 61 (qB 11 1023) HT_ ?_
                 refine pU 10 4 (qB 11 2047) HT_ ?_
                 refine done_ (done_of HT_.out (by kernel_rfl)) ?_; (try go_wp2)
                 all_goals (go_ret; exact ⟨eF, M.out.bel⟩)

def hornbeamlaw15_SpreadShift.Pure : Prop := ∀ (l0_0 : List Int) (l0_1 : List Int) (l0_2 : List Int) (a1 : Int), (l0_0.length ≤ maxLen ∧ ∀ v0 ∈ l0_0, (Lit.int .i64 v0).wf = true) → (l0_1.length ≤ maxLen ∧ ∀ v0 ∈ l0_1, (Lit.int .i64 v0).wf = true) → (l0_2.length ≤ maxLen ∧ ∀ v0 ∈ l0_2, (Lit.int .i64 v0).wf = true) → (Lit.int .i32 a1).wf = true → ∃ k, hornbeamlaw15_SpreadShift.f k l0_0 l0_1 l0_2 a1 = some true

end Go.Proofs.Ytoonddgldmfleaa.QSpreadShift
