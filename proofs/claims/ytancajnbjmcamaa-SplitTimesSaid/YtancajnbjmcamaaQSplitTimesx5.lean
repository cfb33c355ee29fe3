-- Written by a program of this session (wip/tools/mkprint.py over the kit's print); Lean checks it.
import Derived.Test.YtancajnbjmcamaaQSplitTimesx0
import Derived.Test.YtancajnbjmcamaaQSplitTimesx3
import Derived.Test.YtancajnbjmcamaaQSplitTimesx4
namespace Go.Proofs.Ytancajnbjmcamaa.QSplitTimes
open Go.RowKit Go.Proofs.YtancajnbjmcamaaW.PrintWords Go.Proofs.YtancajnbjmcamaaW.PrintLast Go.Proofs.YtancajnbjmcamaaW.PrintMore
attribute [local go_sem] max2_int min2_int max_two min_two max_three min_three max_four min_four   -- for this text's walks alone
set_option linter.unusedVariables false
set_option linter.unusedSimpArgs false

/-! ### split_means_size: function 93 -/
def split_means_size.f (k : Nat) (a0_0 : Int) (a0_1 : Int) (a0_2 : Int) : Option (Int) := (spread_May.f k a0_0 a0_1 a0_2).bind fun t227 => (if t227 = true then (some a0_0) else (some 0))
theorem split_means_size.mono : ∀ a0 a1 a2 k, LeO (split_means_size.f k a0 a1 a2) (split_means_size.f (k + 1) a0 a1 a2) := by
 intro a0 a1 a2 k
 unfold split_means_size.f
 repeat' first
   | (with_reducible exact spread_May.mono _ _ _ _)
   | (with_reducible exact LeO.refl _)
   | (with_reducible exact LeO.none _)
   | (with_reducible refine LeO.ite ?_ ?_)
   | (with_reducible refine LeO.bind ?_ (fun _ => ?_))
   | exact spread_May.mono _ _ _ _
   | exact LeO.none _
   | refine LeO.ite ?_ ?_
   | refine LeO.bind ?_ (fun _ => ?_)
set_option maxHeartbeats 8000000 in
set_option maxRecDepth 100000 in
theorem split_means_size.calls (k : Nat) (a0_0 : Int) (a0_1 : Int) (a0_2 : Int) (r : Int) (w : World) (h : split_means_size.f k a0_0 a0_1 a0_2 = some r) :
  Calls Try.prog 93 #[.agg #[.int .i64 a0_0, .int .i64 a0_1, .int .i64 a0_2]] w fun e w' => e = .returned (.int .i64 r) ∧ Below w.heap.size w w' := by
 have hu83 := Try.underlying83
 have hu54 := Try.underlying54
 have HB := aaM (Below.refl w.heap.size w)
 have H : ((spread_May.f k a0_0 a0_1 a0_2).bind fun t227 => (if t227 = true then (some a0_0) else (some 0))) = some r := h
 clear h
 replace H := ooB.mp H
 obtain ⟨t227, A20, H⟩ := H
 replace H : (if t227 = true then (some a0_0) else (some 0)) = some r := H
 have A2 := aaM A20
 clear A20
 by_cases c3 : t227 = true
 ·subst c3
  have H1 : (some a0_0) = some r := by rw [if_pos rfl] at H; exact H
  clear H; have H := H1; clear H1; obtain rfl := Option.some.inj H; go_enter Try.func93, Try.ntmps93
  go_wp2_with (first | ((with_reducible refine gate_dst (N := 1) rfl ?_); refine bxF w HB 1 #[.int .i64 a0_0, .int .i64 a0_1, .int .i64 a0_2] 83 ?_; intro gb226 hg w4 hb BK226 HB GE226; have GW226 := GE226; clear hb hg; obtain ⟨_, _, _, _, _, _⟩ := bE3 BK226.out) | ((with_reducible refine gate_callee (f := 96) rfl ?_); refine gL (some 5) Try.func96 #[.agg #[.int .i64 a0_0, .int .i64 a0_1, .int .i64 a0_2]] ?_; (with_reducible refine (spread_May.calls k a0_0 a0_1 a0_2 true _ A2.out).mono ?_); rintro e w6 ⟨rfl, hb⟩; refine ⟨_, rfl, ?_⟩; replace BK226 := bY hb BK226; replace HB := aaM (lP (lB HB) hb); (try clear hb); (try clear hb2); (try clear hk); (try clear hi); obtain ⟨_, _, _, _, _, _⟩ := bE3 BK226.out))
  all_goals (go_ret; exact ⟨by first | rfl | (simp [errW_none, errW_some] <;> rfl) | (simp [*, errW_none, errW_some] <;> rfl) | (simp_all; done), lB HB⟩)
 ·replace c3 := Bool.eq_false_iff.mpr c3
  subst c3
  have H1 : (some 0) = some r := by rw [if_neg (show ¬ (false = true) by decide)] at H; exact H
  clear H; have H := H1; clear H1; obtain rfl := Option.some.inj H; go_enter Try.func93, Try.ntmps93
  go_wp2_with (first | ((with_reducible refine gate_dst (N := 1) rfl ?_); refine bxF w HB 1 #[.int .i64 a0_0, .int .i64 a0_1, .int .i64 a0_2] 83 ?_; intro gb226 hg w8 hb BK226 HB GE226; have GW226 := GE226; clear hb hg; obtain ⟨_, _, _, _, _, _⟩ := bE3 BK226.out) | ((with_reducible refine gate_callee (f := 96) rfl ?_); refine gL (some 5) Try.func96 #[.agg #[.int .i64 a0_0, .int .i64 a0_1, .int .i64 a0_2]] ?_; (with_reducible refine (spread_May.calls k a0_0 a0_1 a0_2 false _ A2.out).mono ?_); rintro e w10 ⟨rfl, hb⟩; refine ⟨_, rfl, ?_⟩; replace BK226 := bY hb BK226; replace HB := aaM (lP (lB HB) hb); (try clear hb); (try clear hb2); (try clear hk); (try clear hi)))
  all_goals (go_ret; exact ⟨by first | rfl | (simp [errW_none, errW_some] <;> rfl) | (simp [*, errW_none, errW_some] <;> rfl) | (simp_all; done), lB HB⟩)

/-! ### hist_may: function 33 -/
def hist_may.f (a0 : Int) (a1 : Int) (a2 : Int) : Option (Bool) := if a1 < 1 then (some false) else (if a1 > 257 then (some false) else (if a0 = 0 then (if a2 ≥ 2 then (if a2 ≤ 256 then (some true) else (if a0 = 1 then (some (a2 == 0)) else (some false))) else (if a0 = 1 then (some (a2 == 0)) else (some false))) else (if a0 = 1 then (some (a2 == 0)) else (some false))))
set_option maxHeartbeats 8000000 in
set_option maxRecDepth 100000 in
theorem hist_may.calls (a0 : Int) (a1 : Int) (a2 : Int) (r : Bool) (w : World) (h : hist_may.f a0 a1 a2 = some r) :
  Calls Try.prog 33 #[.int .i64 a0, .int .i64 a1, .int .i64 a2] w fun e w' => e = .returned (.bool r) ∧ Drawn0 w w' := by
 have H : (if a1 < 1 then (some false) else (if a1 > 257 then (some false) else (if a0 = 0 then (if a2 ≥ 2 then (if a2 ≤ 256 then (some true) else (if a0 = 1 then (some (a2 == 0)) else (some false))) else (if a0 = 1 then (some (a2 == 0)) else (some false))) else (if a0 = 1 then (some (a2 == 0)) else (some false))))) = some r := h
 clear h
 by_cases c4 : a1 < 1
 ·rw [if_pos c4] at H
  have c4b0 : decide (a1 < 1) = true := decide_eq_true c4; clear c4; obtain rfl := Option.some.inj H; go_enter Try.func33, Try.ntmps33; go_wp2
  all_goals (go_ret; exact ⟨eF, by repeat (first | exact Drawn0.refl _ | apply Drawn0.step)⟩)
 ·rw [if_neg c4] at H
  have c4b0 : decide (a1 < 1) = false := decide_eq_false c4; clear c4
  by_cases c5 : a1 > 257
  ·rw [if_pos c5] at H
   have c5b0 : decide (257 < a1) = true := decide_eq_true c5; clear c5; obtain rfl := Option.some.inj H; go_enter Try.func33, Try.ntmps33; go_wp2
   all_goals (go_ret; exact ⟨eF, by repeat (first | exact Drawn0.refl _ | apply Drawn0.step)⟩)
  ·rw [if_neg c5] at H
   have c5b0 : decide (257 < a1) = false := decide_eq_false c5; clear c5
   by_cases c6 : a0 = 0
   ·rw [if_pos c6] at H
    have c6b0 : (a0 == 0) = true := beq_iff_eq.mpr c6; have c6b1 : (a0 != 0) = false := bne_eq_false_iff_eq.mpr c6; clear c6
    by_cases c7 : a2 ≥ 2
    ·rw [if_pos c7] at H
     have c7b0 : decide (2 ≤ a2) = true := decide_eq_true c7; clear c7
     by_cases c8 : a2 ≤ 256
     ·rw [if_pos c8] at H
      have c8b0 : decide (a2 ≤ 256) = true := decide_eq_true c8; clear c8; obtain rfl := Option.some.inj H; go_enter Try.func33, Try.ntmps33; go_wp2
      all_goals (go_ret; exact ⟨eF, by repeat (first | exact Drawn0.refl _ | apply Drawn0.step)⟩)
     ·rw [if_neg c8] at H
      have c8b0 : decide (a2 ≤ 256) = false := decide_eq_false c8; clear c8
      by_cases c9 : a0 = 1
      ·rw [if_pos c9] at H
       have c9b0 : (a0 == 1) = true := beq_iff_eq.mpr c9; have c9b1 : (a0 != 1) = false := bne_eq_false_iff_eq.mpr c9; clear c9; obtain rfl := Option.some.inj H; go_enter Try.func33, Try.ntmps33; go_wp2
       all_goals (go_ret; exact ⟨eF, by repeat (first | exact Drawn0.refl _ | apply Drawn0.step)⟩)
      ·rw [if_neg c9] at H
       have c9b0 : (a0 == 1) = false := beq_eq_false_iff_ne.mpr c9; have c9b1 : (a0 != 1) = true := bne_iff_ne.mpr c9; obtain rfl := Option.some.inj H; go_enter Try.func33, Try.ntmps33; go_wp2
       all_goals (go_ret; exact ⟨eF, by repeat (first | exact Drawn0.refl _ | apply Drawn0.step)⟩)
    ·rw [if_neg c7] at H
     have c7b0 : decide (2 ≤ a2) = false := decide_eq_false c7; clear c7
     by_cases c10 : a0 = 1
     ·rw [if_pos c10] at H
      have c10b0 : (a0 == 1) = true := beq_iff_eq.mpr c10; have c10b1 : (a0 != 1) = false := bne_eq_false_iff_eq.mpr c10; clear c10; obtain rfl := Option.some.inj H; go_enter Try.func33, Try.ntmps33; go_wp2
      all_goals (go_ret; exact ⟨eF, by repeat (first | exact Drawn0.refl _ | apply Drawn0.step)⟩)
     ·rw [if_neg c10] at H
      have c10b0 : (a0 == 1) = false := beq_eq_false_iff_ne.mpr c10; have c10b1 : (a0 != 1) = true := bne_iff_ne.mpr c10; obtain rfl := Option.some.inj H; go_enter Try.func33, Try.ntmps33; go_wp2
      all_goals (go_ret; exact ⟨eF, by repeat (first | exact Drawn0.refl _ | apply Drawn0.step)⟩)
   ·rw [if_neg c6] at H
    have c6b0 : (a0 == 0) = false := beq_eq_false_iff_ne.mpr c6; have c6b1 : (a0 != 0) = true := bne_iff_ne.mpr c6
    by_cases c11 : a0 = 1
    ·rw [if_pos c11] at H
     have c11b0 : (a0 == 1) = true := beq_iff_eq.mpr c11; have c11b1 : (a0 != 1) = false := bne_eq_false_iff_eq.mpr c11; clear c11; obtain rfl := Option.some.inj H; go_enter Try.func33, Try.ntmps33; go_wp2
     all_goals (go_ret; exact ⟨eF, by repeat (first | exact Drawn0.refl _ | apply Drawn0.step)⟩)
    ·rw [if_neg c11] at H
     have c11b0 : (a0 == 1) = false := beq_eq_false_iff_ne.mpr c11; have c11b1 : (a0 != 1) = true := bne_iff_ne.mpr c11; obtain rfl := Option.some.inj H; go_enter Try.func33, Try.ntmps33; go_wp2
     all_goals (go_ret; exact ⟨eF, by repeat (first | exact Drawn0.refl _ | apply Drawn0.step)⟩)

/-! ### hist_Right: function 18 -/
def hist_Right.f (a0_0 : Int) (a0_1 : Int) (a0_2 : Int) (l0_3 : List Int) (l0_4 : List (S54)) : Option (Bool) := (hist_may.f a0_0 a0_1 a0_2).bind fun t229 => (if t229 = true then (if a0_0 = 0 then (if (l0_3.length : Int) = (wrap64 (a0_1 * a0_2)) then (some ((l0_4.length : Int) == 0)) else (some false)) else (if (l0_3.length : Int) = 0 then (some ((l0_4.length : Int) == a0_1)) else (some false))) else (some false))
set_option maxHeartbeats 8000000 in
set_option maxRecDepth 100000 in
theorem hist_Right.calls (a0_0 : Int) (a0_1 : Int) (a0_2 : Int) (A0_3 : Option Addr) (c0_3 : Nat) (l0_3 : List Int) (A0_4 : Option Addr) (c0_4 : Nat) (l0_4 : List (S54)) (r : Bool) (w : World) (hr0_3 : Kd.C (Kd.int .i64) w A0_3 l0_3.length l0_3) (hc0_3 : l0_3.length ≤ c0_3) (hr0_4 : Kd.C k54 w A0_4 l0_4.length l0_4) (hc0_4 : l0_4.length ≤ c0_4) (h : hist_Right.f a0_0 a0_1 a0_2 l0_3 l0_4 = some r) :
  Calls Try.prog 18 #[.agg #[.int .i64 a0_0, .int .i64 a0_1, .int .i64 a0_2, .slice A0_3 l0_3.length c0_3, .slice A0_4 l0_4.length c0_4]] w fun e w' => e = .returned (.bool r) ∧ Below w.heap.size w w' := by
 have hu25 := Try.underlying25
 have HR0_3 := aaM hr0_3
 have HC0_3 := aaM hc0_3
 clear hr0_3 hc0_3
 have HR0_4 := aaM hr0_4
 have HC0_4 := aaM hc0_4
 clear hr0_4 hc0_4
 have HB := aaM (Below.refl w.heap.size w)
 have H : ((hist_may.f a0_0 a0_1 a0_2).bind fun t229 => (if t229 = true then (if a0_0 = 0 then (if (l0_3.length : Int) = (wrap64 (a0_1 * a0_2)) then (some ((l0_4.length : Int) == 0)) else (some false)) else (if (l0_3.length : Int) = 0 then (some ((l0_4.length : Int) == a0_1)) else (some false))) else (some false))) = some r := h
 clear h
 replace H := ooB.mp H
 obtain ⟨t229, A20, H⟩ := H
 replace H : (if t229 = true then (if a0_0 = 0 then (if (l0_3.length : Int) = (wrap64 (a0_1 * a0_2)) then (some ((l0_4.length : Int) == 0)) else (some false)) else (if (l0_3.length : Int) = 0 then (some ((l0_4.length : Int) == a0_1)) else (some false))) else (some false)) = some r := H
 have A2 := aaM A20
 clear A20
 by_cases c3 : t229 = true
 ·subst c3
  have H1 : (if a0_0 = 0 then (if (l0_3.length : Int) = (wrap64 (a0_1 * a0_2)) then (some ((l0_4.length : Int) == 0)) else (some false)) else (if (l0_3.length : Int) = 0 then (some ((l0_4.length : Int) == a0_1)) else (some false))) = some r := by rw [if_pos rfl] at H; exact H
  clear H; have H := H1; clear H1
  by_cases c4 : a0_0 = 0
  ·rw [if_pos c4] at H
   have c4b0 : (a0_0 == 0) = true := beq_iff_eq.mpr c4; have c4b1 : (a0_0 != 0) = false := bne_eq_false_iff_eq.mpr c4; clear c4
   by_cases c5 : (l0_3.length : Int) = (wrap64 (a0_1 * a0_2))
   ·rw [if_pos c5] at H
    have c5b0 : ((l0_3.length : Int) == (wrap64 (a0_1 * a0_2))) = true := beq_iff_eq.mpr c5; have c5b1 : ((l0_3.length : Int) != (wrap64 (a0_1 * a0_2))) = false := bne_eq_false_iff_eq.mpr c5; clear c5; obtain rfl := Option.some.inj H; go_enter Try.func18, Try.ntmps18
    go_wp2_with (first | ((with_reducible refine gate_dst (N := 1) rfl ?_); (try (refine gate_guard (by rfl) ?_; dsimp only)); refine bxF w HB 1 #[.int .i64 a0_0, .int .i64 a0_1, .int .i64 a0_2, .slice A0_3 l0_3.length c0_3, .slice A0_4 l0_4.length c0_4] 25 ?_; intro gb228 hg w6 hb BK228 HB GE228; have GW228 := GE228; clear hb hg; obtain ⟨_, _, _, _, _, _, _, _, _, _⟩ := bE5 BK228.out) | ((with_reducible refine gate_callee (f := 33) rfl ?_); refine gL (some 9) Try.func33 #[.int .i64 a0_0, .int .i64 a0_1, .int .i64 a0_2] ?_; (with_reducible refine (hist_may.calls a0_0 a0_1 a0_2 true _ A2.out).mono ?_); rintro e w' ⟨rfl, ⟨nd, rfl⟩⟩; refine ⟨_, rfl, ?_⟩))
    all_goals (go_ret; exact ⟨by first | rfl | (simp [errW_none, errW_some] <;> rfl) | (simp [*, errW_none, errW_some] <;> rfl) | (simp_all; done), lB HB⟩)
   ·rw [if_neg c5] at H
    have c5b0 : ((l0_3.length : Int) == (wrap64 (a0_1 * a0_2))) = false := beq_eq_false_iff_ne.mpr c5; have c5b1 : ((l0_3.length : Int) != (wrap64 (a0_1 * a0_2))) = true := bne_iff_ne.mpr c5; obtain rfl := Option.some.inj H; go_enter Try.func18, Try.ntmps18
    go_wp2_with (first | ((with_reducible refine gate_dst (N := 1) rfl ?_); (try (refine gate_guard (by rfl) ?_; dsimp only)); refine bxF w HB 1 #[.int .i64 a0_0, .int .i64 a0_1, .int .i64 a0_2, .slice A0_3 l0_3.length c0_3, .slice A0_4 l0_4.length c0_4] 25 ?_; intro gb228 hg w8 hb BK228 HB GE228; have GW228 := GE228; clear hb hg; obtain ⟨_, _, _, _, _, _, _, _, _, _⟩ := bE5 BK228.out) | ((with_reducible refine gate_callee (f := 33) rfl ?_); refine gL (some 9) Try.func33 #[.int .i64 a0_0, .int .i64 a0_1, .int .i64 a0_2] ?_; (with_reducible refine (hist_may.calls a0_0 a0_1 a0_2 true _ A2.out).mono ?_); rintro e w' ⟨rfl, ⟨nd, rfl⟩⟩; refine ⟨_, rfl, ?_⟩))
    all_goals (go_ret; exact ⟨by first | rfl | (simp [errW_none, errW_some] <;> rfl) | (simp [*, errW_none, errW_some] <;> rfl) | (simp_all; done), lB HB⟩)
  ·rw [if_neg c4] at H
   have c4b0 : (a0_0 == 0) = false := beq_eq_false_iff_ne.mpr c4; have c4b1 : (a0_0 != 0) = true := bne_iff_ne.mpr c4
   by_cases c10 : (l0_3.length : Int) = 0
   ·rw [if_pos c10] at H
    have c10b0 : ((l0_3.length : Int) == 0) = true := beq_iff_eq.mpr c10; have c10b1 : ((l0_3.length : Int) != 0) = false := bne_eq_false_iff_eq.mpr c10; clear c10; obtain rfl := Option.some.inj H; go_enter Try.func18, Try.ntmps18
    go_wp2_with (first | ((with_reducible refine gate_dst (N := 1) rfl ?_); (try (refine gate_guard (by rfl) ?_; dsimp only)); refine bxF w HB 1 #[.int .i64 a0_0, .int .i64 a0_1, .int .i64 a0_2, .slice A0_3 l0_3.length c0_3, .slice A0_4 l0_4.length c0_4] 25 ?_; intro gb228 hg w11 hb BK228 HB GE228; have GW228 := GE228; clear hb hg; obtain ⟨_, _, _, _, _, _, _, _, _, _⟩ := bE5 BK228.out) | ((with_reducible refine gate_callee (f := 33) rfl ?_); refine gL (some 9) Try.func33 #[.int .i64 a0_0, .int .i64 a0_1, .int .i64 a0_2] ?_; (with_reducible refine (hist_may.calls a0_0 a0_1 a0_2 true _ A2.out).mono ?_); rintro e w' ⟨rfl, ⟨nd, rfl⟩⟩; refine ⟨_, rfl, ?_⟩))
    all_goals (go_ret; exact ⟨by first | rfl | (simp [errW_none, errW_some] <;> rfl) | (simp [*, errW_none, errW_some] <;> rfl) | (simp_all; done), lB HB⟩)
   ·rw [if_neg c10] at H
    have c10b0 : ((l0_3.length : Int) == 0) = false := beq_eq_false_iff_ne.mpr c10; have c10b1 : ((l0_3.length : Int) != 0) = true := bne_iff_ne.mpr c10
    have c10b2 : ¬ (l0_3 = []) := fun h_ => c10 (by rw [h_]; rfl)
    obtain rfl := Option.some.inj H; go_enter Try.func18, Try.ntmps18
    go_wp2_with (first | ((with_reducible refine gate_dst (N := 1) rfl ?_); (try (refine gate_guard (by rfl) ?_; dsimp only)); refine bxF w HB 1 #[.int .i64 a0_0, .int .i64 a0_1, .int .i64 a0_2, .slice A0_3 l0_3.length c0_3, .slice A0_4 l0_4.length c0_4] 25 ?_; intro gb228 hg w13 hb BK228 HB GE228; have GW228 := GE228; clear hb hg; obtain ⟨_, _, _, _, _, _, _, _, _, _⟩ := bE5 BK228.out) | ((with_reducible refine gate_callee (f := 33) rfl ?_); refine gL (some 9) Try.func33 #[.int .i64 a0_0, .int .i64 a0_1, .int .i64 a0_2] ?_; (with_reducible refine (hist_may.calls a0_0 a0_1 a0_2 true _ A2.out).mono ?_); rintro e w' ⟨rfl, ⟨nd, rfl⟩⟩; refine ⟨_, rfl, ?_⟩))
    all_goals (go_ret; exact ⟨by first | rfl | (simp [errW_none, errW_some] <;> rfl) | (simp [*, errW_none, errW_some] <;> rfl) | (simp_all; done), lB HB⟩)
 ·replace c3 := Bool.eq_false_iff.mpr c3
  subst c3
  have H1 : (some false) = some r := by rw [if_neg (show ¬ (false = true) by decide)] at H; exact H
  clear H; have H := H1; clear H1; obtain rfl := Option.some.inj H; go_enter Try.func18, Try.ntmps18
  go_wp2_with (first | ((with_reducible refine gate_dst (N := 1) rfl ?_); (try (refine gate_guard (by rfl) ?_; dsimp only)); refine bxF w HB 1 #[.int .i64 a0_0, .int .i64 a0_1, .int .i64 a0_2, .slice A0_3 l0_3.length c0_3, .slice A0_4 l0_4.length c0_4] 25 ?_; intro gb228 hg w15 hb BK228 HB GE228; have GW228 := GE228; clear hb hg; obtain ⟨_, _, _, _, _, _, _, _, _, _⟩ := bE5 BK228.out) | ((with_reducible refine gate_callee (f := 33) rfl ?_); refine gL (some 9) Try.func33 #[.int .i64 a0_0, .int .i64 a0_1, .int .i64 a0_2] ?_; (with_reducible refine (hist_may.calls a0_0 a0_1 a0_2 false _ A2.out).mono ?_); rintro e w' ⟨rfl, ⟨nd, rfl⟩⟩; refine ⟨_, rfl, ?_⟩))
  all_goals (go_ret; exact ⟨by first | rfl | (simp [errW_none, errW_some] <;> rfl) | (simp [*, errW_none, errW_some] <;> rfl) | (simp_all; done), lB HB⟩)

-- NOT PRINTED: function 49 (hist_moments)

/-! ### hist_Sum: function 34 -/
set_option maxHeartbeats 4000000 in
theorem hist_moments.calls (w : World) : Calls Try.prog 49 #[.func (.func 50) #[] #[]] w fun e w' => ∃ g, e = .returned (.func (.func 61) #[] #[.pointer (some ⟨g, 0, none⟩)]) ∧ w'.cell? ⟨g, 0, none⟩ = some (.func (.func 50) #[] #[]) ∧ Below w.heap.size w w' := by
 go_enter Try.func49, Try.ntmps49
 go_wp2
 go_ret
 exact ⟨_, rfl, (bC (blk_new _ _) 0).trans rfl, lA (Below.refl _ _) _⟩
mutual
def hist_Sum.j0 : Nat → Int → Int → List Int → Int → Int → Int → List Int → List (S54) → Option (List Int × Int × Int × Int × Int)
 | 0, _, _, _, _, _, _, _, _ => none
 | k + 1, x1, x2, x9, x231000, x231001, x231002, x231003, x231004 => hist_Sum.l0 k x2 x9 x1 x231000 x231001 x231002 x231003 x231004 0 0 0
def hist_Sum.l0 : Nat → Int → List Int → Int → Int → Int → Int → List Int → List (S54) → Int → Int → Int → Option (List Int × Int × Int × Int × Int)
 | 0, _, _, _, _, _, _, _, _, _, _, _ => none
 | k + 1, x2, x9, x11, x231000, x231001, x231002, x231003, x231004, x237000, x237001, x237002 => if x11 < x2 then (hist_Sum.l1 k x2 x9 x11 (x9.length : Int) 0 x231000 x231001 x231002 x231003 x231004 x237000 x237001 x237002) else (some (x9, x237000, x237001, x237002, 0))
def hist_Sum.l1 : Nat → Int → List Int → Int → Int → Int → Int → Int → Int → List Int → List (S54) → Int → Int → Int → Option (List Int × Int × Int × Int × Int)
 | 0, _, _, _, _, _, _, _, _, _, _, _, _, _ => none
 | k + 1, x2, x9, x11, x50, x51, x231000, x231001, x231002, x231003, x231004, x237000, x237001, x237002 => if x51 < x50 then (if 0 ≤ x51 then (if x51 < (x9.length : Int) then (if 0 ≤ (wrap64 ((wrap64 (x11 * x231002)) + x51)) then (if (wrap64 ((wrap64 (x11 * x231002)) + x51)) < (x231003.length : Int) then ((prod_Plus.f (rd x9 x51) (rd x231003 (wrap64 ((wrap64 (x11 * x231002)) + x51)))).bind fun bt239 => (if bt239.2 = 0 then (hist_Sum.l1 k x2 (x9.set (x51 : Int).toNat bt239.1) x11 x50 (wrap64 (x51 + 1)) x231000 x231001 x231002 x231003 x231004 x237000 x237001 x237002) else (some (([] : List Int), 0, 0, 0, bt239.2)))) else (none)) else (none)) else (none)) else (none)) else (if x231000 = 1 then (if 0 ≤ x11 then (if x11 < (x231004.length : Int) then ((hist_moments_1.f x237000 x237001 x237002 ((rd_T54 x231004 x11).f0) ((rd_T54 x231004 x11).f1) ((rd_T54 x231004 x11).f2)).bind fun bt243 => (if bt243.2.2.2 = 0 then (hist_Sum.l0 k x2 x9 (wrap64 (x11 + 1)) x231000 x231001 x231002 x231003 x231004 bt243.1 bt243.2.1 bt243.2.2.1) else (some (([] : List Int), 0, 0, 0, bt243.2.2.2)))) else (none)) else (none)) else (hist_Sum.l0 k x2 x9 (wrap64 (x11 + 1)) x231000 x231001 x231002 x231003 x231004 x237000 x237001 x237002))
end
def hist_Sum.f (k : Nat) (a0_0 : Int) (a0_1 : Int) (a0_2 : Int) (l0_3 : List Int) (l0_4 : List (S54)) (a1 : Int) (a2 : Int) : Option (List Int × Int × Int × Int × Int) := (hist_Right.f a0_0 a0_1 a0_2 l0_3 l0_4).bind fun t232 => (if t232 = true then (if a1 < 0 then (some (([] : List Int), 0, 0, 0, 1)) else (if a1 > a2 then (some (([] : List Int), 0, 0, 0, 1)) else (if a2 > a0_1 then (some (([] : List Int), 0, 0, 0, 1)) else (if a0_0 = 0 then (if 0 ≤ a0_2 then (if (a0_2 : Int).toNat ≤ 35184372088832 then (hist_Sum.j0 k a1 a2 (List.replicate (a0_2 : Int).toNat 0) a0_0 a0_1 a0_2 l0_3 l0_4) else (none)) else (none)) else (hist_Sum.j0 k a1 a2 ([] : List Int) a0_0 a0_1 a0_2 l0_3 l0_4))))) else (some (([] : List Int), 0, 0, 0, 8)))
theorem hist_Sum.mono_l : ∀ k, (∀ y0 y1 y2 y3 y4 y5 y6 y7, LeO (hist_Sum.j0 k y0 y1 y2 y3 y4 y5 y6 y7) (hist_Sum.j0 (k + 1) y0 y1 y2 y3 y4 y5 y6 y7)) ∧ (∀ y0 y1 y2 y3 y4 y5 y6 y7 y8 y9 y10, LeO (hist_Sum.l0 k y0 y1 y2 y3 y4 y5 y6 y7 y8 y9 y10) (hist_Sum.l0 (k + 1) y0 y1 y2 y3 y4 y5 y6 y7 y8 y9 y10)) ∧ (∀ y0 y1 y2 y3 y4 y5 y6 y7 y8 y9 y10 y11 y12, LeO (hist_Sum.l1 k y0 y1 y2 y3 y4 y5 y6 y7 y8 y9 y10 y11 y12) (hist_Sum.l1 (k + 1) y0 y1 y2 y3 y4 y5 y6 y7 y8 y9 y10 y11 y12))
 | 0 => ⟨fun _ _ _ _ _ _ _ _ r h => by simp [hist_Sum.j0] at h, fun _ _ _ _ _ _ _ _ _ _ _ r h => by simp [hist_Sum.l0] at h, fun _ _ _ _ _ _ _ _ _ _ _ _ _ r h => by simp [hist_Sum.l1] at h⟩
 | k + 1 => by
  obtain ⟨ih0, ih1, ih2⟩ := hist_Sum.mono_l k
  refine ⟨?_, ?_, ?_⟩
  all_goals (intros; first | unfold hist_Sum.j0 | unfold hist_Sum.l0 | unfold hist_Sum.l1)
  all_goals repeat' first
   | (with_reducible exact ih0 _ _ _ _ _ _ _ _)
   | (with_reducible exact ih1 _ _ _ _ _ _ _ _ _ _ _)
   | (with_reducible exact ih2 _ _ _ _ _ _ _ _ _ _ _ _ _)
   | (with_reducible exact LeO.refl _)
   | (with_reducible exact LeO.none _)
   | (with_reducible refine LeO.ite ?_ ?_)
   | (with_reducible refine LeO.bind ?_ (fun _ => ?_))
   | exact ih0 _ _ _ _ _ _ _ _
   | exact ih1 _ _ _ _ _ _ _ _ _ _ _
   | exact ih2 _ _ _ _ _ _ _ _ _ _ _ _ _
   | exact LeO.none _
   | refine LeO.ite ?_ ?_
   | refine LeO.bind ?_ (fun _ => ?_)
theorem hist_Sum.mono : ∀ a0 a1 a2 a3 a4 a5 a6 k, LeO (hist_Sum.f k a0 a1 a2 a3 a4 a5 a6) (hist_Sum.f (k + 1) a0 a1 a2 a3 a4 a5 a6) := by
 intro a0 a1 a2 a3 a4 a5 a6 k
 obtain ⟨ih0, ih1, ih2⟩ := hist_Sum.mono_l k
 unfold hist_Sum.f
 repeat' first
   | (with_reducible exact ih0 _ _ _ _ _ _ _ _)
   | (with_reducible exact ih1 _ _ _ _ _ _ _ _ _ _ _)
   | (with_reducible exact ih2 _ _ _ _ _ _ _ _ _ _ _ _ _)
   | (with_reducible exact LeO.refl _)
   | (with_reducible exact LeO.none _)
   | (with_reducible refine LeO.ite ?_ ?_)
   | (with_reducible refine LeO.bind ?_ (fun _ => ?_))
   | exact ih0 _ _ _ _ _ _ _ _
   | exact ih1 _ _ _ _ _ _ _ _ _ _ _
   | exact ih2 _ _ _ _ _ _ _ _ _ _ _ _ _
   | exact LeO.none _
   | refine LeO.ite ?_ ?_
   | refine LeO.bind ?_ (fun _ => ?_)
def hist_Sum.T15 : Bool × List (List Nat × List Nat) := (true, [([], []), ([], []), ([0, 1], [0, 1]), ([2], [2]), ([], []), ([4], [4]), ([], []), ([], []), ([7], [7]), ([6, 8], [6, 8]), ([], []), ([9, 10], [9, 10]), ([5, 11], [5, 11]), ([12], [12]), ([3, 13], [3, 13]), ([14], [14]), ([15], [15]), ([15], [15]), ([16, 14, 0, 1, 2, 3, 4, 5, 6, 7, 8, 9, 10, 11, 12, 13, 14, 15, 16], [16]), ([17, 18, 0, 1, 2, 3, 4, 5, 6, 7, 8, 9, 10, 11, 12, 13, 14, 15, 16, 17, 18], [17])])
def hist_Sum.B15 : List Nat := [0, 0, 3, 7, 0, 16, 0, 0, 128, 448, 0, 1984, 4080, 8176, 16383, 32767, 65535, 65535, 131071, 524287]
theorem hist_Sum.tab15 : rtab .any (opsOf Try.f34 15) = hist_Sum.T15 := by kernel_rfl
theorem hist_Sum.bits15 : waitsOk hist_Sum.T15.2 hist_Sum.B15 = true := by kernel_rfl
def hist_Sum.T21 : Bool × List (List Nat × List Nat) := (true, [([], []), ([], []), ([], []), ([2], [2]), ([], []), ([3, 4], [3, 4]), ([5], [5]), ([0, 1, 6, 0], [0, 1, 6]), ([7], [7]), ([8], [8]), ([8], [8]), ([], []), ([11, 9, 7, 0, 1, 2, 3, 4, 5, 6, 7, 8, 9, 11], [9, 11]), ([10, 12, 0, 1, 2, 3, 4, 5, 6, 7, 8, 9, 10, 11, 12], [10])])
def hist_Sum.B21 : List Nat := [0, 0, 0, 4, 0, 28, 60, 127, 255, 511, 511, 0, 3071, 8191]
theorem hist_Sum.tab21 : rtab .any (opsOf Try.f34 21) = hist_Sum.T21 := by kernel_rfl
theorem hist_Sum.bits21 : waitsOk hist_Sum.T21.2 hist_Sum.B21 = true := by kernel_rfl
set_option maxHeartbeats 8000000 in
set_option maxRecDepth 100000 in
theorem hist_Sum.calls (k : Nat) (a0_0 : Int) (a0_1 : Int) (a0_2 : Int) (A0_3 : Option Addr) (c0_3 : Nat) (l0_3 : List Int) (A0_4 : Option Addr) (c0_4 : Nat) (l0_4 : List (S54)) (a1 : Int) (a2 : Int) (r1 : List Int) (r2 : Int) (r3 : Int) (r4 : Int) (r5 : Int) (w : World) (hr0_3 : Kd.C (Kd.int .i64) w A0_3 l0_3.length l0_3) (hc0_3 : l0_3.length ≤ c0_3) (hr0_4 : Kd.C k54 w A0_4 l0_4.length l0_4) (hc0_4 : l0_4.length ≤ c0_4) (h : hist_Sum.f k a0_0 a0_1 a0_2 l0_3 l0_4 a1 a2 = some (r1, r2, r3, r4, r5)) :
  Calls Try.prog 34 #[.agg #[.int .i64 a0_0, .int .i64 a0_1, .int .i64 a0_2, .slice A0_3 l0_3.length c0_3, .slice A0_4 l0_4.length c0_4], .int .i64 a1, .int .i64 a2] w fun e w' => ∃ v0_ : Value, e = .returned (.tuple #[v0_, .agg #[.int .i64 r2, .int .i64 r3, .int .i64 r4], .int .i64 r5]) ∧ Kd.R (Kd.int .i64) 2 w' w.heap.size (fun _ => True) v0_ r1 ∧ Below w.heap.size w w' := by
 have hu25 := Try.underlying25
 have hu54 := Try.underlying54
 have HR0_3 := aaM hr0_3
 have HC0_3 := aaM hc0_3
 clear hr0_3 hc0_3
 have HR0_4 := aaM hr0_4
 have HC0_4 := aaM hc0_4
 clear hr0_4 hc0_4
 have HB := aaM (Below.refl w.heap.size w)
 have H : ((hist_Right.f a0_0 a0_1 a0_2 l0_3 l0_4).bind fun t232 => (if t232 = true then (if a1 < 0 then (some (([] : List Int), 0, 0, 0, 1)) else (if a1 > a2 then (some (([] : List Int), 0, 0, 0, 1)) else (if a2 > a0_1 then (some (([] : List Int), 0, 0, 0, 1)) else (if a0_0 = 0 then (if 0 ≤ a0_2 then (if (a0_2 : Int).toNat ≤ 35184372088832 then (hist_Sum.j0 k a1 a2 (List.replicate (a0_2 : Int).toNat 0) a0_0 a0_1 a0_2 l0_3 l0_4) else (none)) else (none)) else (hist_Sum.j0 k a1 a2 ([] : List Int) a0_0 a0_1 a0_2 l0_3 l0_4))))) else (some (([] : List Int), 0, 0, 0, 8)))) = some (r1, r2, r3, r4, r5) := h
 clear h
 replace H := ooB.mp H
 obtain ⟨t232, A40, H⟩ := H
 replace H : (if t232 = true then (if a1 < 0 then (some (([] : List Int), 0, 0, 0, 1)) else (if a1 > a2 then (some (([] : List Int), 0, 0, 0, 1)) else (if a2 > a0_1 then (some (([] : List Int), 0, 0, 0, 1)) else (if a0_0 = 0 then (if 0 ≤ a0_2 then (if (a0_2 : Int).toNat ≤ 35184372088832 then (hist_Sum.j0 k a1 a2 (List.replicate (a0_2 : Int).toNat 0) a0_0 a0_1 a0_2 l0_3 l0_4) else (none)) else (none)) else (hist_Sum.j0 k a1 a2 ([] : List Int) a0_0 a0_1 a0_2 l0_3 l0_4))))) else (some (([] : List Int), 0, 0, 0, 8))) = some (r1, r2, r3, r4, r5) := H
 have A4 := aaM A40
 clear A40
 by_cases c5 : t232 = true
 ·subst c5
  have H1 : (if a1 < 0 then (some (([] : List Int), 0, 0, 0, 1)) else (if a1 > a2 then (some (([] : List Int), 0, 0, 0, 1)) else (if a2 > a0_1 then (some (([] : List Int), 0, 0, 0, 1)) else (if a0_0 = 0 then (if 0 ≤ a0_2 then (if (a0_2 : Int).toNat ≤ 35184372088832 then (hist_Sum.j0 k a1 a2 (List.replicate (a0_2 : Int).toNat 0) a0_0 a0_1 a0_2 l0_3 l0_4) else (none)) else (none)) else (hist_Sum.j0 k a1 a2 ([] : List Int) a0_0 a0_1 a0_2 l0_3 l0_4))))) = some (r1, r2, r3, r4, r5) := by rw [if_pos rfl] at H; exact H
  clear H; have H := H1; clear H1
  by_cases c6 : a1 < 0
  ·rw [if_pos c6] at H
   have c6b0 : decide (a1 < 0) = true := decide_eq_true c6; clear c6; simp only [Option.some.injEq, Prod.mk.injEq] at H; obtain ⟨rfl, rfl, rfl, rfl, rfl⟩ := H; go_enter Try.func34, Try.ntmps34
   go_wp2_with (first | ((with_reducible refine gate_dst (N := 3) rfl ?_); refine bxF w HB 3 #[.int .i64 a0_0, .int .i64 a0_1, .int .i64 a0_2, .slice A0_3 l0_3.length c0_3, .slice A0_4 l0_4.length c0_4] 25 ?_; intro gb230 hg w7 hb BK230 HB GE230; have GW230 := GE230; clear hb hg) | ((with_reducible refine gate_dst (N := 7) rfl ?_); refine bxF w HB 7 #[.int .i64 0, .int .i64 0, .int .i64 0] 54 ?_; intro gb231 hg w8 hb BK231 HB GE231; have GW231 := GE231; obtain ⟨NB230_231, NB231_230⟩ := nS hg BK230; replace BK230 := bY hb BK230; clear hb hg; have := NB230_231.out; have := NB231_230.out; obtain ⟨hcz10_0, hcz10_1, hcz10_2, hcz10_3, hcz10_4, hfz10_0, hfz10_1, hfz10_2, hfz10_3, hfz10_4⟩ := bE5 BK230.out) | ((with_reducible refine gate_callee (f := 18) rfl ?_); refine gL (some 19) Try.func18 #[.agg #[.int .i64 a0_0, .int .i64 a0_1, .int .i64 a0_2, .slice A0_3 l0_3.length c0_3, .slice A0_4 l0_4.length c0_4]] ?_; (with_reducible refine (hist_Right.calls a0_0 a0_1 a0_2 _ _ l0_3 _ _ l0_4 true _ ?side1 ?side2 ?side3 ?side4 A4.out).mono ?_); (case side1 => exact cZ (ccB HR0_3.out HB.out)); (case side2 => exact HC0_3.out); (case side3 => exact cZ (ccB HR0_4.out HB.out)); (case side4 => exact HC0_4.out); rintro e w11 ⟨rfl, hb⟩; refine ⟨_, rfl, ?_⟩; replace BK230 := bY hb BK230; replace BK231 := bY hb BK231; replace HB := aaM (lP (lB HB) hb); (try clear hb); (try clear hb2); (try clear hk); (try clear hi); obtain ⟨hcz12_0, hcz12_1, hcz12_2, hfz12_0, hfz12_1, hfz12_2⟩ := bE3 BK231.out))
   refine bodyPost_ret (results_list (rs := [.tmp 6, .cell 7 54, .tmp 8]) rfl (by simp) (.tmp (.cell gb231 54 #[.int .i64 0, .int .i64 0, .int .i64 0] (0, 0) _ rfl (bZ BK231) Try.underlying54 rfl (by kernel_rfl) (.tmp .nil)))) rfl ?_
   exact ⟨_, eE, by first | exact Kd.R_nil _ _ _ _ _ | exact Kd.N_nil _ _ _ _ _ | exact Kd.V_nil _ _ _ _ _ | exact Kd.Q_nil _ _ _ _ _ | exact Kd.S_nil _ _ _ _ _, lB HB⟩
  ·rw [if_neg c6] at H
   have c6b0 : decide (a1 < 0) = false := decide_eq_false c6; clear c6
   by_cases c13 : a1 > a2
   ·rw [if_pos c13] at H
    have c13b0 : decide (a2 < a1) = true := decide_eq_true c13; clear c13; simp only [Option.some.injEq, Prod.mk.injEq] at H; obtain ⟨rfl, rfl, rfl, rfl, rfl⟩ := H; go_enter Try.func34, Try.ntmps34
    go_wp2_with (first | ((with_reducible refine gate_dst (N := 3) rfl ?_); refine bxF w HB 3 #[.int .i64 a0_0, .int .i64 a0_1, .int .i64 a0_2, .slice A0_3 l0_3.length c0_3, .slice A0_4 l0_4.length c0_4] 25 ?_; intro gb230 hg w14 hb BK230 HB GE230; have GW230 := GE230; clear hb hg) | ((with_reducible refine gate_dst (N := 7) rfl ?_); refine bxF w HB 7 #[.int .i64 0, .int .i64 0, .int .i64 0] 54 ?_; intro gb231 hg w15 hb BK231 HB GE231; have GW231 := GE231; obtain ⟨NB230_231, NB231_230⟩ := nS hg BK230; replace BK230 := bY hb BK230; clear hb hg; have := NB230_231.out; have := NB231_230.out; obtain ⟨hcz17_0, hcz17_1, hcz17_2, hcz17_3, hcz17_4, hfz17_0, hfz17_1, hfz17_2, hfz17_3, hfz17_4⟩ := bE5 BK230.out) | ((with_reducible refine gate_callee (f := 18) rfl ?_); refine gL (some 19) Try.func18 #[.agg #[.int .i64 a0_0, .int .i64 a0_1, .int .i64 a0_2, .slice A0_3 l0_3.length c0_3, .slice A0_4 l0_4.length c0_4]] ?_; (with_reducible refine (hist_Right.calls a0_0 a0_1 a0_2 _ _ l0_3 _ _ l0_4 true _ ?side1 ?side2 ?side3 ?side4 A4.out).mono ?_); (case side1 => exact cZ (ccB HR0_3.out HB.out)); (case side2 => exact HC0_3.out); (case side3 => exact cZ (ccB HR0_4.out HB.out)); (case side4 => exact HC0_4.out); rintro e w18 ⟨rfl, hb⟩; refine ⟨_, rfl, ?_⟩; replace BK230 := bY hb BK230; replace BK231 := bY hb BK231; replace HB := aaM (lP (lB HB) hb); (try clear hb); (try clear hb2); (try clear hk); (try clear hi); obtain ⟨hcz19_0, hcz19_1, hcz19_2, hfz19_0, hfz19_1, hfz19_2⟩ := bE3 BK231.out))
    refine bodyPost_ret (results_list (rs := [.tmp 6, .cell 7 54, .tmp 8]) rfl (by simp) (.tmp (.cell gb231 54 #[.int .i64 0, .int .i64 0, .int .i64 0] (0, 0) _ rfl (bZ BK231) Try.underlying54 rfl (by kernel_rfl) (.tmp .nil)))) rfl ?_
    exact ⟨_, eE, by first | exact Kd.R_nil _ _ _ _ _ | exact Kd.N_nil _ _ _ _ _ | exact Kd.V_nil _ _ _ _ _ | exact Kd.Q_nil _ _ _ _ _ | exact Kd.S_nil _ _ _ _ _, lB HB⟩
   ·rw [if_neg c13] at H
    have c13b0 : decide (a2 < a1) = false := decide_eq_false c13; clear c13
    by_cases c20 : a2 > a0_1
    ·rw [if_pos c20] at H
     have c20b0 : decide (a0_1 < a2) = true := decide_eq_true c20; clear c20; simp only [Option.some.injEq, Prod.mk.injEq] at H; obtain ⟨rfl, rfl, rfl, rfl, rfl⟩ := H; go_enter Try.func34, Try.ntmps34
     go_wp2_with (first | ((with_reducible refine gate_dst (N := 3) rfl ?_); refine bxF w HB 3 #[.int .i64 a0_0, .int .i64 a0_1, .int .i64 a0_2, .slice A0_3 l0_3.length c0_3, .slice A0_4 l0_4.length c0_4] 25 ?_; intro gb230 hg w21 hb BK230 HB GE230; have GW230 := GE230; clear hb hg) | ((with_reducible refine gate_dst (N := 7) rfl ?_); refine bxF w HB 7 #[.int .i64 0, .int .i64 0, .int .i64 0] 54 ?_; intro gb231 hg w22 hb BK231 HB GE231; have GW231 := GE231; obtain ⟨NB230_231, NB231_230⟩ := nS hg BK230; replace BK230 := bY hb BK230; clear hb hg; have := NB230_231.out; have := NB231_230.out; obtain ⟨hcz24_0, hcz24_1, hcz24_2, hcz24_3, hcz24_4, hfz24_0, hfz24_1, hfz24_2, hfz24_3, hfz24_4⟩ := bE5 BK230.out) | ((with_reducible refine gate_callee (f := 18) rfl ?_); refine gL (some 19) Try.func18 #[.agg #[.int .i64 a0_0, .int .i64 a0_1, .int .i64 a0_2, .slice A0_3 l0_3.length c0_3, .slice A0_4 l0_4.length c0_4]] ?_; (with_reducible refine (hist_Right.calls a0_0 a0_1 a0_2 _ _ l0_3 _ _ l0_4 true _ ?side1 ?side2 ?side3 ?side4 A4.out).mono ?_); (case side1 => exact cZ (ccB HR0_3.out HB.out)); (case side2 => exact HC0_3.out); (case side3 => exact cZ (ccB HR0_4.out HB.out)); (case side4 => exact HC0_4.out); rintro e w25 ⟨rfl, hb⟩; refine ⟨_, rfl, ?_⟩; replace BK230 := bY hb BK230; replace BK231 := bY hb BK231; replace HB := aaM (lP (lB HB) hb); (try clear hb); (try clear hb2); (try clear hk); (try clear hi); obtain ⟨hcz26_0, hcz26_1, hcz26_2, hcz26_3, hcz26_4, hfz26_0, hfz26_1, hfz26_2, hfz26_3, hfz26_4⟩ := bE5 BK230.out; obtain ⟨hcz27_0, hcz27_1, hcz27_2, hfz27_0, hfz27_1, hfz27_2⟩ := bE3 BK231.out))
     refine bodyPost_ret (results_list (rs := [.tmp 6, .cell 7 54, .tmp 8]) rfl (by simp) (.tmp (.cell gb231 54 #[.int .i64 0, .int .i64 0, .int .i64 0] (0, 0) _ rfl (bZ BK231) Try.underlying54 rfl (by kernel_rfl) (.tmp .nil)))) rfl ?_
     exact ⟨_, eE, by first | exact Kd.R_nil _ _ _ _ _ | exact Kd.N_nil _ _ _ _ _ | exact Kd.V_nil _ _ _ _ _ | exact Kd.Q_nil _ _ _ _ _ | exact Kd.S_nil _ _ _ _ _, lB HB⟩
    ·rw [if_neg c20] at H
     have c20b0 : decide (a0_1 < a2) = false := decide_eq_false c20; clear c20; have HC28 := aaM H; clear H; go_enter Try.func34, Try.ntmps34
     go_upto_if 39 with (first | ((with_reducible refine gate_dst (N := 3) rfl ?_); refine bxF w HB 3 #[.int .i64 a0_0, .int .i64 a0_1, .int .i64 a0_2, .slice A0_3 l0_3.length c0_3, .slice A0_4 l0_4.length c0_4] 25 ?_; intro gb230 hg w29 hb BK230 HB GE230; have GW230 := GE230; clear hb hg) | ((with_reducible refine gate_dst (N := 7) rfl ?_); refine bxF w HB 7 #[.int .i64 0, .int .i64 0, .int .i64 0] 54 ?_; intro gb231 hg w30 hb BK231 HB GE231; have GW231 := GE231; obtain ⟨NB230_231, NB231_230⟩ := nS hg BK230; replace BK230 := bY hb BK230; clear hb hg; have := NB230_231.out; have := NB231_230.out; obtain ⟨hcz32_0, hcz32_1, hcz32_2, hcz32_3, hcz32_4, hfz32_0, hfz32_1, hfz32_2, hfz32_3, hfz32_4⟩ := bE5 BK230.out) | ((with_reducible refine gate_callee (f := 18) rfl ?_); refine gL (some 19) Try.func18 #[.agg #[.int .i64 a0_0, .int .i64 a0_1, .int .i64 a0_2, .slice A0_3 l0_3.length c0_3, .slice A0_4 l0_4.length c0_4]] ?_; (with_reducible refine (hist_Right.calls a0_0 a0_1 a0_2 _ _ l0_3 _ _ l0_4 true _ ?side1 ?side2 ?side3 ?side4 A4.out).mono ?_); (case side1 => exact cZ (ccB HR0_3.out HB.out)); (case side2 => exact HC0_3.out); (case side3 => exact cZ (ccB HR0_4.out HB.out)); (case side4 => exact HC0_4.out); rintro e w33 ⟨rfl, hb⟩; refine ⟨_, rfl, ?_⟩; replace BK230 := bY hb BK230; replace BK231 := bY hb BK231; replace HB := aaM (lP (lB HB) hb); (try clear hb); (try clear hb2); (try clear hk); (try clear hi); obtain ⟨hcz34_0, hcz34_1, hcz34_2, hcz34_3, hcz34_4, hfz34_0, hfz34_1, hfz34_2, hfz34_3, hfz34_4⟩ := bE5 BK230.out))
     (try simp only [Act.put, ssB, ssZ, ssS])
     go_cut [9] (fun v9 wc => ∃ (kq : Nat) (x9_27 : List Int), Aside0 (hist_Sum.j0 kq a1 a2 x9_27 a0_0 a0_1 a0_2 l0_3 l0_4 = some (r1, r2, r3, r4, r5)) ∧ Aside0 (kq ≤ k) ∧ Aside0 (Kd.R (Kd.int .i64) 2 wc w.heap.size (fun _ => True) v9 x9_27) ∧ Aside0 (wc.heap[gb230]? = some (.cells #[.int .i64 a0_0, .int .i64 a0_1, .int .i64 a0_2, (.slice A0_3 l0_3.length c0_3), (.slice A0_4 l0_4.length c0_4)] 25 (0, 0))) ∧ Aside0 (wc.heap[gb231]? = some (.cells #[.int .i64 0, .int .i64 0, .int .i64 0] 54 (0, 0))) ∧ Aside0 (Below w.heap.size w wc))
     case first =>
      have H := HC28.out; clear HC28
      by_cases c35 : a0_0 = 0
      ·rw [if_pos c35] at H
       have c35b0 : (a0_0 == 0) = true := beq_iff_eq.mpr c35; have c35b1 : (a0_0 != 0) = false := bne_eq_false_iff_eq.mpr c35; clear c35; (first | rw [c35b0] | (simp only [i64_w, i32_w]; rw [c35b0]) | skip)
       by_cases c36 : 0 ≤ a0_2
       ·rw [if_pos c36] at H
        have c36b0 := eq_true c36; have c36b1 : decide (0 ≤ a0_2) = true := decide_eq_true c36; clear c36
        by_cases c37 : (a0_2 : Int).toNat ≤ 35184372088832
        ·rw [if_pos c37] at H
         have c37b0 := eq_true c37; have c37b1 : decide ((a0_2 : Int).toNat ≤ 35184372088832) = true := decide_eq_true c37; clear c37; obtain ⟨y233, hy233⟩ : ∃ y_ : List Int, y_ = (List.replicate (a0_2 : Int).toNat 0) := ⟨_, rfl⟩
         replace H : (hist_Sum.j0 k a1 a2 y233 a0_0 a0_1 a0_2 l0_3 l0_4) = some (r1, r2, r3, r4, r5) := by first | (rw [hy233]; with_reducible exact H) | (have H2_ := (Option.bind_some _ _).symm.trans H; rw [hy233]; with_reducible exact H2_) | (have H2_ := (Option.bind_some _ _).symm.trans H; with_reducible exact H2_) | with_reducible exact H | (rw [hy233]; exact H) | exact H
         have Ny233 := aaM hy233; clear hy233; have H' := aaM H; clear H; have := NB230_231.out; have := NB231_230.out; obtain ⟨hcz39_0, hcz39_1, hcz39_2, hcz39_3, hcz39_4, hfz39_0, hfz39_1, hfz39_2, hfz39_3, hfz39_4⟩ := bE5 BK230.out
         go_wp2_with (first | ((with_reducible refine gate_dst (N := 42) rfl ?_); refine Kd.R_make (Kd.int .i64) _ 2 rfl (N := 42) rfl 22 _ _ rfl a0_2 rfl rfl Try.underlying22 (.int .i64 0) 8 info2 rfl (by decide) (by omega) 0 (ok := fun _ => True) (okp := fun _ => True) rfl (fun _ hk => hk) trivial (of_decide_eq_true (by first | (with_reducible assumption) | assumption)) (Nat.le_trans (Nat.mul_le_mul_right _ (of_decide_eq_true (by first | (with_reducible assumption) | assumption) : a0_2.toNat ≤ 35184372088832)) (by omega)) (Below.refl _ _) (Nat.le_refl _) ?_; intro v234 w40 ho41 hb hg_ hnew_; clear hg_ hnew_; (first | rw [← Ny233.out] at ho41 | (simp only [Int.reduceToNat] at ho41; rw [← Ny233.out] at ho41)); have HO235 := aaM (Kd.R_lower ho41 (lZ (lB HB))); replace BK230 := bY hb BK230; replace BK231 := bY hb BK231; replace HB := aaM (lP (lB HB) hb); clear hb ho41))
         go_meet
         case rel => exact ⟨_, (y233), H', ⟨by first | omega | exact Nat.le_refl _⟩, ⟨rZ HO235⟩, ⟨bZ BK230⟩, ⟨bZ BK231⟩, ⟨lB HB⟩⟩
        ·rw [if_neg c37] at H
         exact absurd H (by simp)
       ·rw [if_neg c36] at H
        exact absurd H (by simp)
      ·rw [if_neg c35] at H
       have c35b0 : (a0_0 == 0) = false := beq_eq_false_iff_ne.mpr c35; have c35b1 : (a0_0 != 0) = true := bne_iff_ne.mpr c35; (first | rw [c35b0] | (simp only [i64_w, i32_w]; rw [c35b0]) | skip); have H' := aaM H; clear H; go_wp2
       go_meet
       case rel => exact ⟨_, (([] : List Int)), H', ⟨by first | omega | exact Nat.le_refl _⟩, ⟨by first | exact Kd.R_nil _ _ _ _ _ | exact Kd.N_nil _ _ _ _ _ | exact Kd.V_nil _ _ _ _ _ | exact Kd.Q_nil _ _ _ _ _ | exact Kd.S_nil _ _ _ _ _⟩, ⟨bZ BK230⟩, ⟨bZ BK231⟩, ⟨lB HB⟩⟩
     case rest =>
      clear HC28; (try clear c1); (try clear c2); (try clear p2); (try clear c3); (try clear c5); (try clear c6); (try clear c6b0); (try clear c9); (try clear c13); (try clear c13b0); (try clear c16); (try clear c18); (try clear c20); (try clear c20b0); (try clear c23); (try clear c31); (try clear c34); (try clear c35); (try clear c35b0); (try clear c35b1); (try clear c36); (try clear c36b0); (try clear c36b1); (try clear c37); (try clear c37b0); (try clear c37b1); (try clear c38); (try clear hcz10_0); (try clear hcz10_1); (try clear hcz10_2); (try clear hcz10_3); (try clear hcz10_4); (try clear hcz12_0); (try clear hcz12_1); (try clear hcz12_2); (try clear hcz17_0); (try clear hcz17_1); (try clear hcz17_2); (try clear hcz17_3); (try clear hcz17_4); (try clear hcz19_0); (try clear hcz19_1); (try clear hcz19_2); (try clear hcz24_0); (try clear hcz24_1); (try clear hcz24_2); (try clear hcz24_3); (try clear hcz24_4); (try clear hcz26_0); (try clear hcz26_1); (try clear hcz26_2); (try clear hcz26_3); (try clear hcz26_4); (try clear hcz27_0); (try clear hcz27_1); (try clear hcz27_2); (try clear hcz32_0); (try clear hcz32_1); (try clear hcz32_2); (try clear hcz32_3); (try clear hcz32_4); (try clear hcz34_0); (try clear hcz34_1); (try clear hcz34_2); (try clear hcz34_3); (try clear hcz34_4); (try clear hcz39_0); (try clear hcz39_1); (try clear hcz39_2); (try clear hcz39_3); (try clear hcz39_4); (try clear hfz10_0); (try clear hfz10_1); (try clear hfz10_2); (try clear hfz10_3); (try clear hfz10_4); (try clear hfz12_0); (try clear hfz12_1); (try clear hfz12_2); (try clear hfz17_0); (try clear hfz17_1); (try clear hfz17_2); (try clear hfz17_3); (try clear hfz17_4); (try clear hfz19_0); (try clear hfz19_1); (try clear hfz19_2); (try clear hfz24_0); (try clear hfz24_1); (try clear hfz24_2); (try clear hfz24_3); (try clear hfz24_4); (try clear hfz26_0); (try clear hfz26_1); (try clear hfz26_2); (try clear hfz26_3); (try clear hfz26_4); (try clear hfz27_0); (try clear hfz27_1); (try clear hfz27_2); (try clear hfz32_0); (try clear hfz32_1); (try clear hfz32_2); (try clear hfz32_3); (try clear hfz32_4); (try clear hfz34_0); (try clear hfz34_1); (try clear hfz34_2); (try clear hfz34_3); (try clear hfz34_4); (try clear hfz39_0); (try clear hfz39_1); (try clear hfz39_2); (try clear hfz39_3); (try clear hfz39_4); obtain ⟨kq, x9_27, HA, HJ27, HO_9, BK230, BK231, HB⟩ := hcut
      cases kq with
      | zero => exact absurd HA.out (by simp [hist_Sum.j0])
      | succ kj27 =>
       have H := HA.out; clear HA; simp only [hist_Sum.j0] at H; have H' := aaM H; clear H
       go_wp2_with (first | ((with_reducible refine gate_dst (N := 10) rfl ?_); refine bxF w HB 10 #[.int .i64 0, .int .i64 0, .int .i64 0] 54 ?_; intro gb236 hg w42 hb BK236 HB GE236; have GW236 := GE236; replace HO_9 := aaM (rrB (rZ HO_9) hb); obtain ⟨NB230_236, NB236_230⟩ := nS hg BK230; replace BK230 := bY hb BK230; obtain ⟨NB231_236, NB236_231⟩ := nS hg BK231; replace BK231 := bY hb BK231; clear hb hg))
       go_loopg [11] kj27 (fun kq v11 w' => ∃ (x9_2 : List Int) (x11_2 : Int) (x232000_2 : Int) (x232001_2 : Int) (x232002_2 : Int) (x237000_2 : Int) (x237001_2 : Int) (x237002_2 : Int), v11 = .int .i64 x11_2 ∧ Aside0 (hist_Sum.l0 kq a2 x9_2 x11_2 a0_0 a0_1 a0_2 l0_3 l0_4 x237000_2 x237001_2 x237002_2 = some (r1, r2, r3, r4, r5)) ∧ Aside0 (kq ≤ kj27) ∧ Aside0 (Kd.R (Kd.int .i64) 2 w' w.heap.size (fun _ => True) u9 x9_2) ∧ Aside0 (w'.heap[gb230]? = some (.cells #[.int .i64 a0_0, .int .i64 a0_1, .int .i64 a0_2, (.slice A0_3 l0_3.length c0_3), (.slice A0_4 l0_4.length c0_4)] 25 (0, 0))) ∧ Aside0 (w'.heap[gb231]? = some (.cells #[.int .i64 x232000_2, .int .i64 x232001_2, .int .i64 x232002_2] 54 (0, 0))) ∧ Aside0 (w'.heap[gb236]? = some (.cells #[.int .i64 x237000_2, .int .i64 x237001_2, .int .i64 x237002_2] 54 (0, 0))) ∧ Aside0 (Below w.heap.size w w'))
       case atStart => exact ⟨(x9_27), (a1), (0), (0), (0), (0), (0), (0), (eF), H', ⟨Nat.le_refl _⟩, ⟨rZ HO_9⟩, ⟨bZ BK230⟩, ⟨bZ BK231⟩, ⟨bZ BK236⟩, ⟨lB HB⟩⟩
       case round =>
        clear H'; (try clear c1); (try clear c2); (try clear p2); (try clear c3); (try clear c5); (try clear c6); (try clear c6b0); (try clear c9); (try clear c13); (try clear c13b0); (try clear c16); (try clear c18); (try clear c20); (try clear c20b0); (try clear c23); (try clear c31); (try clear c34); (try clear c35); (try clear c35b0); (try clear c35b1); (try clear c36); (try clear c36b0); (try clear c36b1); (try clear c37); (try clear c37b0); (try clear c37b1); (try clear c38); (try clear hcz10_0); (try clear hcz10_1); (try clear hcz10_2); (try clear hcz10_3); (try clear hcz10_4); (try clear hcz12_0); (try clear hcz12_1); (try clear hcz12_2); (try clear hcz17_0); (try clear hcz17_1); (try clear hcz17_2); (try clear hcz17_3); (try clear hcz17_4); (try clear hcz19_0); (try clear hcz19_1); (try clear hcz19_2); (try clear hcz24_0); (try clear hcz24_1); (try clear hcz24_2); (try clear hcz24_3); (try clear hcz24_4); (try clear hcz26_0); (try clear hcz26_1); (try clear hcz26_2); (try clear hcz26_3); (try clear hcz26_4); (try clear hcz27_0); (try clear hcz27_1); (try clear hcz27_2); (try clear hcz32_0); (try clear hcz32_1); (try clear hcz32_2); (try clear hcz32_3); (try clear hcz32_4); (try clear hcz34_0); (try clear hcz34_1); (try clear hcz34_2); (try clear hcz34_3); (try clear hcz34_4); (try clear hcz39_0); (try clear hcz39_1); (try clear hcz39_2); (try clear hcz39_3); (try clear hcz39_4); (try clear hfz10_0); (try clear hfz10_1); (try clear hfz10_2); (try clear hfz10_3); (try clear hfz10_4); (try clear hfz12_0); (try clear hfz12_1); (try clear hfz12_2); (try clear hfz17_0); (try clear hfz17_1); (try clear hfz17_2); (try clear hfz17_3); (try clear hfz17_4); (try clear hfz19_0); (try clear hfz19_1); (try clear hfz19_2); (try clear hfz24_0); (try clear hfz24_1); (try clear hfz24_2); (try clear hfz24_3); (try clear hfz24_4); (try clear hfz26_0); (try clear hfz26_1); (try clear hfz26_2); (try clear hfz26_3); (try clear hfz26_4); (try clear hfz27_0); (try clear hfz27_1); (try clear hfz27_2); (try clear hfz32_0); (try clear hfz32_1); (try clear hfz32_2); (try clear hfz32_3); (try clear hfz32_4); (try clear hfz34_0); (try clear hfz34_1); (try clear hfz34_2); (try clear hfz34_3); (try clear hfz34_4); (try clear hfz39_0); (try clear hfz39_1); (try clear hfz39_2); (try clear hfz39_3); (try clear hfz39_4); (try clear p2); obtain ⟨x9_2, x11_2, x232000_2, x232001_2, x232002_2, x237000_2, x237001_2, x237002_2, rfl, HA, HK2, HO_9, BK230, BK231, BK236, HB⟩ := hrel
        cases gk with
        | zero => exact absurd HA.out (by simp [hist_Sum.l0])
        | succ k2 =>
         have H := HA.out; clear HA; simp only [hist_Sum.l0] at H
         by_cases c43 : x11_2 < a2
         ·rw [if_pos c43] at H
          have c43b0 : decide (x11_2 < a2) = true := decide_eq_true c43; clear c43; have H' := aaM H; clear H; obtain ⟨Ao44, co44, eo44⟩ := Kd.R_slice HO_9.out; subst eo44; go_wp2
          go_loopg [51] k2 (fun kq v51 w' => ∃ (x9_3 : List Int) (x51_3 : Int) (x232000_3 : Int) (x232001_3 : Int) (x232002_3 : Int), v51 = .int .i64 x51_3 ∧ Aside0 (hist_Sum.l1 kq a2 x9_3 x11_2 (x9_2.length : Int) x51_3 a0_0 a0_1 a0_2 l0_3 l0_4 x237000_2 x237001_2 x237002_2 = some (r1, r2, r3, r4, r5)) ∧ Aside0 (kq ≤ k2) ∧ Aside0 (Kd.R (Kd.int .i64) 2 w' w.heap.size (fun _ => True) (.slice Ao44 x9_2.length co44) x9_3) ∧ Aside0 (w'.heap[gb230]? = some (.cells #[.int .i64 a0_0, .int .i64 a0_1, .int .i64 a0_2, (.slice A0_3 l0_3.length c0_3), (.slice A0_4 l0_4.length c0_4)] 25 (0, 0))) ∧ Aside0 (w'.heap[gb231]? = some (.cells #[.int .i64 x232000_3, .int .i64 x232001_3, .int .i64 x232002_3] 54 (0, 0))) ∧ Aside0 (w'.heap[gb236]? = some (.cells #[.int .i64 x237000_2, .int .i64 x237001_2, .int .i64 x237002_2] 54 (0, 0))) ∧ Aside0 (Below w.heap.size w w'))
          case atStart => exact ⟨(x9_2), (0), (x232000_2), (x232001_2), (x232002_2), (eF), H', ⟨Nat.le_refl _⟩, ⟨rZ HO_9⟩, ⟨bZ BK230⟩, ⟨bZ BK231⟩, ⟨bZ BK236⟩, ⟨lB HB⟩⟩
          case round =>
           clear H'; (try clear c1); (try clear c2); (try clear p2); (try clear c3); (try clear c4); (try clear c5); (try clear c6); (try clear c6b0); (try clear c9); (try clear c13); (try clear c13b0); (try clear c16); (try clear c18); (try clear c20); (try clear c20b0); (try clear c23); (try clear c31); (try clear c34); (try clear c35); (try clear c35b0); (try clear c35b1); (try clear c36); (try clear c36b0); (try clear c36b1); (try clear c37); (try clear c37b0); (try clear c37b1); (try clear c38); (try clear c43); (try clear c43b0); (try clear hcz10_0); (try clear hcz10_1); (try clear hcz10_2); (try clear hcz10_3); (try clear hcz10_4); (try clear hcz12_0); (try clear hcz12_1); (try clear hcz12_2); (try clear hcz17_0); (try clear hcz17_1); (try clear hcz17_2); (try clear hcz17_3); (try clear hcz17_4); (try clear hcz19_0); (try clear hcz19_1); (try clear hcz19_2); (try clear hcz24_0); (try clear hcz24_1); (try clear hcz24_2); (try clear hcz24_3); (try clear hcz24_4); (try clear hcz26_0); (try clear hcz26_1); (try clear hcz26_2); (try clear hcz26_3); (try clear hcz26_4); (try clear hcz27_0); (try clear hcz27_1); (try clear hcz27_2); (try clear hcz32_0); (try clear hcz32_1); (try clear hcz32_2); (try clear hcz32_3); (try clear hcz32_4); (try clear hcz34_0); (try clear hcz34_1); (try clear hcz34_2); (try clear hcz34_3); (try clear hcz34_4); (try clear hcz39_0); (try clear hcz39_1); (try clear hcz39_2); (try clear hcz39_3); (try clear hcz39_4); (try clear hfz10_0); (try clear hfz10_1); (try clear hfz10_2); (try clear hfz10_3); (try clear hfz10_4); (try clear hfz12_0); (try clear hfz12_1); (try clear hfz12_2); (try clear hfz17_0); (try clear hfz17_1); (try clear hfz17_2); (try clear hfz17_3); (try clear hfz17_4); (try clear hfz19_0); (try clear hfz19_1); (try clear hfz19_2); (try clear hfz24_0); (try clear hfz24_1); (try clear hfz24_2); (try clear hfz24_3); (try clear hfz24_4); (try clear hfz26_0); (try clear hfz26_1); (try clear hfz26_2); (try clear hfz26_3); (try clear hfz26_4); (try clear hfz27_0); (try clear hfz27_1); (try clear hfz27_2); (try clear hfz32_0); (try clear hfz32_1); (try clear hfz32_2); (try clear hfz32_3); (try clear hfz32_4); (try clear hfz34_0); (try clear hfz34_1); (try clear hfz34_2); (try clear hfz34_3); (try clear hfz34_4); (try clear hfz39_0); (try clear hfz39_1); (try clear hfz39_2); (try clear hfz39_3); (try clear hfz39_4); (try clear p2); obtain ⟨x9_3, x51_3, x232000_3, x232001_3, x232002_3, rfl, HA, HK3, HO_9, BK230, BK231, BK236, HB⟩ := hrel; have hl9_3 := (Kd.R_reads' HO_9.out).1; rw [hl9_3] at HO_9; (try simp only [hl9_3]); (try simp only [hl9_3] at BK230); (try simp only [hl9_3] at BK231); (try simp only [hl9_3] at BK236)
           cases gk with
           | zero => exact absurd HA.out (by simp [hist_Sum.l1])
           | succ k3 =>
            have H := HA.out; clear HA; simp only [hist_Sum.l1] at H
            by_cases c45 : x51_3 < (x9_2.length : Int)
            ·rw [if_pos c45] at H
             have c45b0 : decide (x51_3 < (x9_2.length : Int)) = true := decide_eq_true c45; (try have c45b0z : decide (x51_3 < (x9_3.length : Int)) = true := by rw [← hl9_3]; exact c45b0); clear c45
             by_cases c46 : 0 ≤ x51_3
             ·rw [if_pos c46] at H
              have c46b0 : decide (0 ≤ x51_3) = true := decide_eq_true c46; clear c46
              by_cases c47 : x51_3 < (x9_3.length : Int)
              ·rw [if_pos c47] at H
               have c47b0 : decide (x51_3 < (x9_3.length : Int)) = true := decide_eq_true c47; (try have c47b0z : decide (x51_3 < (x9_4.length : Int)) = true := by rw [← hl9_4]; exact c47b0); clear c47; obtain ⟨ji48, hji48⟩ : ∃ j_ : Int, (wrap64 ((wrap64 (x11_2 * a0_2)) + x51_3)) = j_ := ⟨_, rfl⟩
               replace H : (if 0 ≤ (ji48) then (if (ji48) < (l0_3.length : Int) then ((prod_Plus.f (rd x9_3 x51_3) (rd l0_3 (ji48))).bind fun bt239 => (if bt239.2 = 0 then (hist_Sum.l1 k3 a2 (x9_3.set (x51_3 : Int).toNat bt239.1) x11_2 (x9_2.length : Int) (wrap64 (x51_3 + 1)) a0_0 a0_1 a0_2 l0_3 l0_4 x237000_2 x237001_2 x237002_2) else (some (([] : List Int), 0, 0, 0, bt239.2)))) else (none)) else (none)) = some (r1, r2, r3, r4, r5) := by first | (rw [hji48] at H; exact H) | (simp only [hji48] at H ⊢; exact H)
               have hji48w : (IntKind.i64.wrap ((wrap64 (x11_2 * a0_2)) + x51_3)) = ji48 := (i64_w _).trans hji48
               by_cases c49 : 0 ≤ (ji48)
               ·rw [if_pos c49] at H
                have c49b0 : decide (0 ≤ (ji48)) = true := decide_eq_true c49; clear c49
                by_cases c50 : (ji48) < (l0_3.length : Int)
                ·rw [if_pos c50] at H
                 have c50b0 : decide ((ji48) < (l0_3.length : Int)) = true := decide_eq_true c50; clear c50; replace H := ooB.mp H; obtain ⟨⟨t239, t240⟩, A510, H⟩ := H; replace H : (if t240 = 0 then (hist_Sum.l1 k3 a2 (x9_3.set (x51_3 : Int).toNat t239) x11_2 (x9_2.length : Int) (wrap64 (x51_3 + 1)) a0_0 a0_1 a0_2 l0_3 l0_4 x237000_2 x237001_2 x237002_2) else (some (([] : List Int), 0, 0, 0, t240))) = some (r1, r2, r3, r4, r5) := H; have A51 := aaM A510; clear A510; (try go_wp2); replace HO_9 := aaM (rrD HO_9.out); replace BK230 := aaM (bD BK230.out); replace BK231 := aaM (bD BK231.out); replace BK236 := aaM (bD BK236.out); replace HB := aaM (lD HB.out); have p237 : 0 ≤ (x51_3 : Int) := of_decide_eq_true (by first | (with_reducible assumption) | assumption); have q237 : x51_3 < (x9_3.length : Int) := of_decide_eq_true (by first | (with_reducible assumption) | assumption); obtain ⟨ad237, e237, hx237_0⟩ := Kd.at_int (Kd.R_reads' HO_9.out).2.2 x51_3 p237 q237
                 cases e237
                 replace p237 := eq_true p237; replace q237 := eq_true q237; have p238 : 0 ≤ ((ji48) : Int) := of_decide_eq_true (by first | (with_reducible assumption) | assumption); have q238 : (ji48) < (l0_3.length : Int) := of_decide_eq_true (by first | (with_reducible assumption) | assumption); obtain ⟨ad238, e238, hx238_0⟩ := Kd.at_int HR0_3.out (ji48) p238 q238; have hw238_0 := hx238_0
                 cases e238
                 replace hx238_0 := (HB.out.cell (World.block_lt_of_cell? w _ hx238_0)).trans hx238_0; replace p238 := eq_true p238; replace q238 := eq_true q238; refine start_ (n := 20) (S := fun w' => w'.cell? ⟨gb230, 0, none⟩ = some (.int .i64 a0_0) ∧ w'.cell? ⟨gb230, 1, none⟩ = some (.int .i64 a0_1) ∧ w'.cell? ⟨gb230, 2, none⟩ = some (.int .i64 a0_2) ∧ w'.cell? ⟨gb230, 3, none⟩ = some (.slice (some ad238) l0_3.length c0_3) ∧ w'.cell? ⟨gb230, 4, none⟩ = some (.slice A0_4 l0_4.length c0_4) ∧ w'.cell? (ad237.add (x51_3).toNat) = some (.int .i64 (rd x9_3 x51_3)) ∧ w'.cell? (ad238.add ((ji48)).toNat) = some (.int .i64 (rd l0_3 (ji48)))) (ds := []) #[false, false, false, false, false, false, false, false, false, false, false, false, false, false, false, false, false, false, false, false] (by kernel_rfl) rfl rfl ⟨(bC BK230.out 0).trans rfl, (bC BK230.out 1).trans rfl, (bC BK230.out 2).trans rfl, (bC BK230.out 3).trans rfl, (bC BK230.out 4).trans rfl, hx237_0, ((HB.out.cell (World.block_lt_of_cell? w _ hw238_0)).trans hw238_0)⟩ (fun hHeld => ?_); refine with_tabW hist_Sum.tab15 hist_Sum.bits15 (fun HT_ HW_ => ?_); generalize wr.drew = w54 at HO_9 BK230 BK231 BK236 HB hx237_0 hx238_0 hHeld ⊢; refine pU 0 55 (qB 20 1) HT_ ?_
                 refine pU 1 56 (qB 20 3) HT_ ?_
                 refine pU 2 57 (qB 20 7) HT_ ?_
                 refine pU 4 59 (qB 20 23) HT_ ?_
                 refine pU 6 61 (qB 20 87) HT_ ?_
                 refine pU 7 62 (qB 20 215) HT_ ?_
                 refine pU 10 65 (qB 20 1239) HT_ ?_
                 refine tU 3 58 (qB 20 1247) HT_ HW_ hHeld ?_
                 refine tU 5 60 (qB 20 1279) HT_ HW_ hHeld ?_
                 refine tU 8 63 (qB 20 1535) HT_ HW_ hHeld ?_
                 refine pU 9 64 (qB 20 2047) HT_ ?_
                 refine pU 11 66 (qB 20 4095) HT_ ?_
                 refine pU 12 67 (qB 20 8191) HT_ ?_
                 refine tU 13 68 (qB 20 16383) HT_ HW_ hHeld ?_
                 refine oU 14 (some 69) (qB 20 32767) HT_ (fun K hK => ?_); refine goes_ Try.func48 (by kernel_rfl) rfl #[.int .i64 (rd x9_3 x51_3), .int .i64 (rd l0_3 (ji48))] (by rfl) rfl rfl (by (try simp only [mmT, mmC, mmN]); first | done | (simp only [hji48]; rfl) | rfl | (simp only [ddD, ddT]; rfl)) ?_; (with_reducible refine (prod_Plus.calls (rd x9_3 x51_3) (rd l0_3 (ji48)) t239 t240 _ A51.out).mono ?_); rintro e w' ⟨rfl, ⟨nd, rfl⟩⟩; refine ⟨_, rfl, ?_⟩; refine hK.out _ _ ⟨(bC BK230.out 0).trans rfl, (bC BK230.out 1).trans rfl, (bC BK230.out 2).trans rfl, (bC BK230.out 3).trans rfl, (bC BK230.out 4).trans rfl, hHeld.2.2.2.2.2.1, ((HB.out.cell (World.block_lt_of_cell? w _ hw238_0)).trans hw238_0)⟩ (fun hHeld => ?_); clear hK K; refine nU 69 ?_
                 refine pU 15 54 (qB 20 65535) HT_ ?_
                 refine pU 16 70 (qB 20 131071) HT_ ?_
                 refine pU 17 71 (qB 20 262143) HT_ ?_
                 refine pU 18 13 (qB 20 524287) HT_ ?_
                 refine pU 19 14 (qB 20 1048575) HT_ ?_
                 refine done_ (done_of HT_.out (by kernel_rfl)) ?_
                 by_cases c52 : t240 = 0
                 ·rw [if_pos c52] at H
                  have c52b0 : (t240 == 0) = true := beq_iff_eq.mpr c52; have c52b1 : (t240 != 0) = false := bne_eq_false_iff_eq.mpr c52; clear c52; obtain ⟨y241, hy241⟩ : ∃ y_ : List Int, y_ = (x9_3.set (x51_3 : Int).toNat t239) := ⟨_, rfl⟩
                  replace H : (hist_Sum.l1 k3 a2 y241 x11_2 (x9_2.length : Int) (wrap64 (x51_3 + 1)) a0_0 a0_1 a0_2 l0_3 l0_4 x237000_2 x237001_2 x237002_2) = some (r1, r2, r3, r4, r5) := by first | (rw [hy241]; with_reducible exact H) | (have H2_ := (Option.bind_some _ _).symm.trans H; rw [hy241]; with_reducible exact H2_) | (have H2_ := (Option.bind_some _ _).symm.trans H; with_reducible exact H2_) | with_reducible exact H | (rw [hy241]; exact H) | exact H
                  have Ny241 := aaM hy241; clear hy241; have H' := aaM H; clear H; have m0_ := aaM (rrN HO_9.out nd); have m1_ := aaM (bN BK230.out nd); have m2_ := aaM (bN BK231.out nd); have m3_ := aaM (bN BK236.out nd); have m4_ := aaM (lN HB.out nd); clear HO_9 BK230 BK231 BK236 HB; have HO_9 := m0_; have BK230 := m1_; have BK231 := m2_; have BK236 := m3_; have HB := m4_; clear m0_ m1_ m2_ m3_ m4_; generalize World.drewN w54 nd = w54 at HO_9 BK230 BK231 BK236 HB ⊢; have p53 : 0 ≤ (x51_3 : Int) := of_decide_eq_true (by first | (with_reducible assumption) | assumption); have q53 : (x51_3 : Int) < ((x9_3.length : Int) : Int) := of_decide_eq_true (by first | (with_reducible assumption) | assumption); obtain ⟨go53, co53, eo53, gb53, gl53, cl53, HG53⟩ := Kd.R_form HO_9.out (by omega); (first | cases eo53 | (injection eo53 with ea_ en_ ec_; (first | subst ea_ | (injection ea_ with ea_; subst ea_)); subst ec_; clear en_)); have GB53 := aaM gb53; have GG53 := aaM HG53; clear gb53 gl53 HG53; (first | simp only [add_plain] at hx237_0 | skip); obtain ⟨hx53_0, hf53_0⟩ := Kd.R_celln 0 HO_9.out (x51_3 : Int) p53 q53; replace p53 := eq_true p53; replace q53 := eq_true q53; obtain ⟨hy55_, hz55_⟩ := Kd.R_celln 0 HO_9.out (x51_3 : Int) (of_decide_eq_true (by first | (with_reducible assumption) | assumption)) (of_decide_eq_true (by first | (with_reducible assumption) | assumption)); have HP55 := Kd.R_putg HO_9.out (x51_3 : Int) t239; (try go_wp2_with (first | ((with_reducible refine gate_store (t := 2) (p := 79) rfl ?_); refine store_event (t := 2) (p := 79) (v := ?vo_w56) (w1 := (w54.setCell ⟨go53, (x51_3 : Int).toNat, none⟩ (.int .i64 t239))) ?hg ?ho ?hn ?hr ?_; (case ho => rfl); (case hg => rfl); (case hn => rfl); (case hr => first | (go_simp; done) | (go_simp; rfl)); intro w56 hw; have hg : w54.grownBy w56 (some go53) := (by rw [hw]; exact HP55.2); have hp_ : Kd.R (Kd.int .i64) 2 w56 w.heap.size (fun _ => True) (.slice (some ⟨go53, 0, none⟩) x9_3.length co44) y241 := (by rw [hw, Ny241.out]; exact HP55.1); clear HP55; replace BK230 := aaM (blk_grown (g := gb230) (bZ BK230) hg (Kd.R_ne HO_9.out BK230.out (by decide))); replace BK231 := aaM (blk_grown (g := gb231) (bZ BK231) hg (Kd.R_ne HO_9.out BK231.out (by decide))); replace BK236 := aaM (blk_grown (g := gb236) (bZ BK236) hg (Kd.R_ne HO_9.out BK236.out (by decide))); replace HO_9 := aaM (hp_); replace HB := aaM ((by rw [hw]; exact lS (HB.out) GB53.out : Below w.heap.size w w56)); clear hg hw hp_))); (try simp only [← hl9_3])
                  go_roundg k3
                  case measure => have := HJ27.out; have := HK2.out; have := HK3.out; omega
                  case rel => exact ⟨(y241), (wrap64 (x51_3 + 1)), (x232000_3), (x232001_3), (x232002_3), (eF), H', ⟨by have := HJ27.out; have := HK2.out; have := HK3.out; omega⟩, ⟨by (try simp only [hl9_3]); (with_reducible repeat (first | apply rrA | apply rrN | apply rrD)); exact HO_9.out⟩, ⟨by (try simp only [hl9_3]); (with_reducible repeat (first | refine bN ?_ _ | refine bD ?_ | refine bA ?_ _)); exact BK230.out⟩, ⟨by (try simp only [hl9_3]); (with_reducible repeat (first | refine bN ?_ _ | refine bD ?_ | refine bA ?_ _)); exact BK231.out⟩, ⟨by (try simp only [hl9_3]); (with_reducible repeat (first | refine bN ?_ _ | refine bD ?_ | refine bA ?_ _)); exact BK236.out⟩, ⟨lB HB⟩⟩
                 ·rw [if_neg c52] at H
                  have c52b0 : (t240 == 0) = false := beq_eq_false_iff_ne.mpr c52; have c52b1 : (t240 != 0) = true := bne_iff_ne.mpr c52; simp only [Option.some.injEq, Prod.mk.injEq] at H; obtain ⟨rfl, rfl, rfl, rfl, rfl⟩ := H; have m0_ := aaM (rrN HO_9.out nd); have m1_ := aaM (bN BK230.out nd); have m2_ := aaM (bN BK231.out nd); have m3_ := aaM (bN BK236.out nd); have m4_ := aaM (lN HB.out nd); clear HO_9 BK230 BK231 BK236 HB; have HO_9 := m0_; have BK230 := m1_; have BK231 := m2_; have BK236 := m3_; have HB := m4_; clear m0_ m1_ m2_ m3_ m4_; generalize World.drewN w54 nd = w54 at HO_9 BK230 BK231 BK236 HB ⊢; have := NB231_230.out; have := NB230_231.out; have := NB231_236.out; have := NB236_231.out; obtain ⟨_, _, _, _, _, _⟩ := bE3 BK231.out; (try go_wp2); refine bodyPost_ret (results_list (rs := [.tmp 6, .cell 7 54, .tmp 8]) rfl (by simp) (.tmp (.cell gb231 54 #[.int .i64 0, .int .i64 0, .int .i64 0] (0, 0) _ rfl (bZ BK231) Try.underlying54 rfl (by kernel_rfl) (.tmp .nil)))) rfl ?_
                  exact ⟨_, by first | rfl | (simp [errW_none, errW_some] <;> rfl) | (simp only [← hji48]; first | rfl | (simp [errW_none, errW_some] <;> rfl)) | (simp [*, errW_none, errW_some] <;> rfl), by first | exact Kd.R_nil _ _ _ _ _ | exact Kd.N_nil _ _ _ _ _ | exact Kd.V_nil _ _ _ _ _ | exact Kd.Q_nil _ _ _ _ _ | exact Kd.S_nil _ _ _ _ _, lB HB⟩
                ·rw [if_neg c50] at H
                 exact absurd H (by simp)
               ·rw [if_neg c49] at H
                exact absurd H (by simp)
              ·rw [if_neg c47] at H
               exact absurd H (by simp)
             ·rw [if_neg c46] at H
              exact absurd H (by simp)
            ·rw [if_neg c45] at H
             have c45b0 : decide (x51_3 < (x9_2.length : Int)) = false := decide_eq_false c45; (try have c45b0z : decide (x51_3 < (x9_3.length : Int)) = false := by rw [← hl9_3]; exact c45b0); clear c45
             by_cases c61 : a0_0 = 1
             ·rw [if_pos c61] at H
              have c61b0 : (a0_0 == 1) = true := beq_iff_eq.mpr c61; have c61b1 : (a0_0 != 1) = false := bne_eq_false_iff_eq.mpr c61; clear c61
              by_cases c62 : 0 ≤ x11_2
              ·rw [if_pos c62] at H
               have c62b0 : decide (0 ≤ x11_2) = true := decide_eq_true c62; clear c62
               by_cases c63 : x11_2 < (l0_4.length : Int)
               ·rw [if_pos c63] at H
                have c63b0 : decide (x11_2 < (l0_4.length : Int)) = true := decide_eq_true c63; clear c63; replace H := ooB.mp H; obtain ⟨⟨t243, t244, t245, t246⟩, A640, H⟩ := H; replace H : (if t246 = 0 then (hist_Sum.l0 k3 a2 x9_3 (wrap64 (x11_2 + 1)) a0_0 a0_1 a0_2 l0_3 l0_4 t243 t244 t245) else (some (([] : List Int), 0, 0, 0, t246))) = some (r1, r2, r3, r4, r5) := H; have A64 := aaM A640; clear A640; have := NB230_231.out; have := NB231_230.out; have := NB230_236.out; have := NB236_230.out; obtain ⟨_, _, _, _, _, _, _, _, _, _⟩ := bE5 BK230.out; (try go_wp2); replace HO_9 := aaM (rrD HO_9.out); replace BK230 := aaM (bD BK230.out); replace BK231 := aaM (bD BK231.out); replace BK236 := aaM (bD BK236.out); replace HB := aaM (lD HB.out); have p242 : 0 ≤ (x11_2 : Int) := of_decide_eq_true (by first | (with_reducible assumption) | assumption); have q242 : x11_2 < (l0_4.length : Int) := of_decide_eq_true (by first | (with_reducible assumption) | assumption); obtain ⟨ad242, e242, hx242_0, hx242_1, hx242_2⟩ := at_T54 HR0_4.out x11_2 p242 q242; have hw242_2 := hx242_2; have hw242_1 := hx242_1; have hw242_0 := hx242_0
                cases e242
                replace hx242_0 := (HB.out.cell (World.block_lt_of_cell? w _ hx242_0)).trans hx242_0; replace hx242_1 := (HB.out.cell (World.block_lt_of_cell? w _ hx242_1)).trans hx242_1; replace hx242_2 := (HB.out.cell (World.block_lt_of_cell? w _ hx242_2)).trans hx242_2; replace p242 := eq_true p242; replace q242 := eq_true q242; refine start_ (n := 14) (S := fun w' => w'.cell? ⟨gb236, 0, none⟩ = some (.int .i64 x237000_2) ∧ w'.cell? ⟨gb236, 1, none⟩ = some (.int .i64 x237001_2) ∧ w'.cell? ⟨gb236, 2, none⟩ = some (.int .i64 x237002_2) ∧ w'.cell? ⟨gb230, 0, none⟩ = some (.int .i64 a0_0) ∧ w'.cell? ⟨gb230, 1, none⟩ = some (.int .i64 a0_1) ∧ w'.cell? ⟨gb230, 2, none⟩ = some (.int .i64 a0_2) ∧ w'.cell? ⟨gb230, 3, none⟩ = some (.slice A0_3 l0_3.length c0_3) ∧ w'.cell? ⟨gb230, 4, none⟩ = some (.slice (some ad242) l0_4.length c0_4) ∧ w'.cell? (ad242.add ((x11_2).toNat * 3)) = some (.int .i64 ((rd_T54 l0_4 x11_2).f0)) ∧ w'.cell? ⟨(ad242.add ((x11_2).toNat * 3)).block, (ad242.add ((x11_2).toNat * 3)).off + 1, none⟩ = some (.int .i64 ((rd_T54 l0_4 x11_2).f1)) ∧ w'.cell? ⟨(ad242.add ((x11_2).toNat * 3)).block, (ad242.add ((x11_2).toNat * 3)).off + 2, none⟩ = some (.int .i64 ((rd_T54 l0_4 x11_2).f2))) (ds := []) #[false, false, false, false, false, false, false, false, false, false, false, false, false, false] (by kernel_rfl) rfl rfl ⟨(bC BK236.out 0).trans rfl, (bC BK236.out 1).trans rfl, (bC BK236.out 2).trans rfl, (bC BK230.out 0).trans rfl, (bC BK230.out 1).trans rfl, (bC BK230.out 2).trans rfl, (bC BK230.out 3).trans rfl, (bC BK230.out 4).trans rfl, ((HB.out.cell (World.block_lt_of_cell? w _ hw242_0)).trans hw242_0), ((HB.out.cell (World.block_lt_of_cell? w _ hw242_1)).trans hw242_1), ((HB.out.cell (World.block_lt_of_cell? w _ hw242_2)).trans hw242_2)⟩ (fun hHeld => ?_); refine with_tabW hist_Sum.tab21 hist_Sum.bits21 (fun HT_ HW_ => ?_); generalize wr.drew = w69 at HO_9 BK230 BK231 BK236 HB hx242_0 hx242_1 hx242_2 hHeld ⊢; refine pU 2 87 (qB 14 4) HT_ ?_
                refine pU 4 89 (qB 14 20) HT_ ?_
                refine tU 1 86 (qB 14 22) HT_ HW_ hHeld ?_
                refine tU 3 88 (qB 14 30) HT_ HW_ hHeld ?_
                refine pU 5 90 (qB 14 62) HT_ ?_
                refine tU 6 91 (qB 14 126) HT_ HW_ hHeld ?_
                refine join_ (σ := Nat × Nat) 2 (qB 14 4095) (fun s_ => [(85, .func (.func 61) #[] #[.pointer (some ⟨s_.2, 0, none⟩)]), (92, .tuple #[.agg #[.int .i64 t243, .int .i64 t244, .int .i64 t245], .int .i64 t246]), (15, .pointer (some ⟨s_.1, 0, none⟩)), (84, .tuple #[.agg #[.int .i64 t243, .int .i64 t244, .int .i64 t245], .int .i64 t246]), (93, .agg #[.int .i64 t243, .int .i64 t244, .int .i64 t245]), (94, .int .i64 t246)]) (fun s_ w' => (w'.cell? ⟨gb236, 0, none⟩ = some (.int .i64 x237000_2) ∧ w'.cell? ⟨gb236, 1, none⟩ = some (.int .i64 x237001_2) ∧ w'.cell? ⟨gb236, 2, none⟩ = some (.int .i64 x237002_2) ∧ w'.cell? ⟨gb230, 0, none⟩ = some (.int .i64 a0_0) ∧ w'.cell? ⟨gb230, 1, none⟩ = some (.int .i64 a0_1) ∧ w'.cell? ⟨gb230, 2, none⟩ = some (.int .i64 a0_2) ∧ w'.cell? ⟨gb230, 3, none⟩ = some (.slice A0_3 l0_3.length c0_3) ∧ w'.cell? ⟨gb230, 4, none⟩ = some (.slice (some ad242) l0_4.length c0_4) ∧ w'.cell? (ad242.add ((x11_2).toNat * 3)) = some (.int .i64 ((rd_T54 l0_4 x11_2).f0)) ∧ w'.cell? ⟨(ad242.add ((x11_2).toNat * 3)).block, (ad242.add ((x11_2).toNat * 3)).off + 1, none⟩ = some (.int .i64 ((rd_T54 l0_4 x11_2).f1)) ∧ w'.cell? ⟨(ad242.add ((x11_2).toNat * 3)).block, (ad242.add ((x11_2).toNat * 3)).off + 2, none⟩ = some (.int .i64 ((rd_T54 l0_4 x11_2).f2))) ∧ (Kd.R (Kd.int .i64) 2 w' w.heap.size (fun _ => True) (.slice Ao44 x9_3.length co44) x9_3) ∧ (w'.heap[gb230]? = some (.cells #[.int .i64 a0_0, .int .i64 a0_1, .int .i64 a0_2, .slice A0_3 l0_3.length c0_3, .slice (some ad242) l0_4.length c0_4] 25 (0, 0))) ∧ (w'.heap[gb231]? = some (.cells #[.int .i64 x232000_3, .int .i64 x232001_3, .int .i64 x232002_3] 54 (0, 0))) ∧ (w'.heap[gb236]? = some (.cells #[.int .i64 x237000_2, .int .i64 x237001_2, .int .i64 x237002_2] 54 (0, 0))) ∧ (w'.heap[s_.1]? = some (.cells #[.int .i64 0, .int .i64 0, .int .i64 0] 54 (0, 0))) ∧ (w.heap.size ≤ s_.1) ∧ (w.heap.size ≤ s_.1) ∧ (gb230 ≠ s_.1) ∧ (s_.1 ≠ gb230) ∧ (gb231 ≠ s_.1) ∧ (s_.1 ≠ gb231) ∧ (gb236 ≠ s_.1) ∧ (s_.1 ≠ gb236) ∧ (Below w.heap.size w w')) ?_ ?_; rotate_left
                ·intro hCont
                 refine two_ (i := 0) (j := 11) (Ni := some 85) (Nj := some 15) (qB 14 127) (qB 14 2174) rfl rfl rfl rfl (two_of HT_.out (by kernel_rfl)) (by decide) (by decide) (fun K hK => ?_) (fun K hK => ?_)
                 ·skip
                  refine goes_ Try.func49 (by kernel_rfl) rfl #[.func (.func 50) #[] #[]] (by rfl) rfl rfl (by first | rfl | simp [Act.eval]) ?_; (with_reducible refine (hist_moments.calls _).mono ?_); rintro e w70c ⟨gc, rfl, hgc_, hb⟩; have hgc := aaM hgc_; clear hgc_; refine ⟨_, rfl, ?_⟩; replace HO_9 := aaM (rrB (rZ HO_9) hb); replace BK230 := bY hb BK230; replace BK231 := bY hb BK231; replace BK236 := bY hb BK236; replace HB := aaM (lP (lB HB) hb); (try clear hb); (try clear hb2); (try clear hk); (try clear hi); refine hK.out _ _ ⟨(bC BK236.out 0).trans rfl, (bC BK236.out 1).trans rfl, (bC BK236.out 2).trans rfl, (bC BK230.out 0).trans rfl, (bC BK230.out 1).trans rfl, (bC BK230.out 2).trans rfl, (bC BK230.out 3).trans rfl, (bC BK230.out 4).trans rfl, ((HB.out.cell (World.block_lt_of_cell? w _ hw242_0)).trans hw242_0), ((HB.out.cell (World.block_lt_of_cell? w _ hw242_1)).trans hw242_1), ((HB.out.cell (World.block_lt_of_cell? w _ hw242_2)).trans hw242_2)⟩ (fun hHeld => ?_); clear hK K; refine nU 85 ?_
                  refine two_ (i := 7) (j := 11) (Ni := some 92) (Nj := some 15) (qB 14 255) (qB 14 2175) rfl rfl rfl rfl (two_of HT_.out (by kernel_rfl)) (by decide) (by decide) (fun K hK => ?_) (fun K hK => ?_)
                  ·skip
                   refine goesC_ Try.func61 (by kernel_rfl) rfl #[.agg #[.int .i64 x237000_2, .int .i64 x237001_2, .int .i64 x237002_2], .agg #[.int .i64 ((rd_T54 l0_4 x11_2).f0), .int .i64 ((rd_T54 l0_4 x11_2).f1), .int .i64 ((rd_T54 l0_4 x11_2).f2)]] #[.pointer (some ⟨gc, 0, none⟩)] #[.agg #[.int .i64 x237000_2, .int .i64 x237001_2, .int .i64 x237002_2], .agg #[.int .i64 ((rd_T54 l0_4 x11_2).f0), .int .i64 ((rd_T54 l0_4 x11_2).f1), .int .i64 ((rd_T54 l0_4 x11_2).f2)], .pointer (some ⟨gc, 0, none⟩)] rfl (by rfl) rfl rfl rfl mG ?_; (with_reducible refine (hist_moments_1.calls x237000_2 x237001_2 x237002_2 ((rd_T54 l0_4 x11_2).f0) ((rd_T54 l0_4 x11_2).f1) ((rd_T54 l0_4 x11_2).f2) t243 t244 t245 t246 gc _ hgc.out A64.out).mono ?_); rintro e w70 ⟨rfl, hb⟩; refine ⟨_, rfl, ?_⟩; replace HO_9 := aaM (rrB (rZ HO_9) hb); replace BK230 := bY hb BK230; replace BK231 := bY hb BK231; replace BK236 := bY hb BK236; replace HB := aaM (lP (lB HB) hb); (try clear hb); (try clear hb2); (try clear hk); (try clear hi); refine hK.out _ _ ⟨(bC BK236.out 0).trans rfl, (bC BK236.out 1).trans rfl, (bC BK236.out 2).trans rfl, (bC BK230.out 0).trans rfl, (bC BK230.out 1).trans rfl, (bC BK230.out 2).trans rfl, (bC BK230.out 3).trans rfl, (bC BK230.out 4).trans rfl, ((HB.out.cell (World.block_lt_of_cell? w _ hw242_0)).trans hw242_0), ((HB.out.cell (World.block_lt_of_cell? w _ hw242_1)).trans hw242_1), ((HB.out.cell (World.block_lt_of_cell? w _ hw242_2)).trans hw242_2)⟩ (fun hHeld => ?_); clear hK K; refine nU 92 ?_
                   refine pU 8 84 (qB 14 511) HT_ ?_
                   refine pU 9 93 (qB 14 1023) HT_ ?_
                   refine pU 10 94 (qB 14 2047) HT_ ?_
                   refine oU 11 (some 15) (qB 14 4095) HT_ (fun K hK => ?_); refine box_step ?hg (N := 15) ?hd (cs := #[.int .i64 0, .int .i64 0, .int .i64 0]) (t := 54) ?hr ?_; (case hd => rfl); (case hg => rfl); (case hr => first | (go_simp; done) | (go_simp; rfl)); intro gb247 hg w71 hbox hb; have hP_ := lQ (lB HB) hb; replace HO_9 := aaM (rrB (rZ HO_9) hb); replace HB := aaM hP_.1; have BK247 := aaM (hbox); have GW247 := aaM (gQ hg hP_.2); have GE247 := aaM (gQ hg hP_.2); obtain ⟨NB230_247, NB247_230⟩ := nS hg BK230; replace BK230 := bY hb BK230; obtain ⟨NB231_247, NB247_231⟩ := nS hg BK231; replace BK231 := bY hb BK231; obtain ⟨NB236_247, NB247_236⟩ := nS hg BK236; replace BK236 := bY hb BK236; clear hb hbox hg hP_; refine hK.out _ _ ⟨(bC BK236.out 0).trans rfl, (bC BK236.out 1).trans rfl, (bC BK236.out 2).trans rfl, (bC BK230.out 0).trans rfl, (bC BK230.out 1).trans rfl, (bC BK230.out 2).trans rfl, (bC BK230.out 3).trans rfl, (bC BK230.out 4).trans rfl, ((HB.out.cell (World.block_lt_of_cell? w _ hw242_0)).trans hw242_0), ((HB.out.cell (World.block_lt_of_cell? w _ hw242_1)).trans hw242_1), ((HB.out.cell (World.block_lt_of_cell? w _ hw242_2)).trans hw242_2)⟩ (fun hHeld => ?_); clear hK K; refine nU 15 ?_
                   exact norm_ (by simp only [putAll, Act.put, ssB, ssZ, ssS]) (hCont (gb247, gc) _ ⟨hHeld, (rZ HO_9), (bZ BK230), (bZ BK231), (bZ BK236), (bZ BK247), GW247.out, GE247.out, NB230_247.out, NB247_230.out, NB231_247.out, NB247_231.out, NB236_247.out, NB247_236.out, (lB HB)⟩)
                  ·skip
                   refine box_step ?hg (N := 15) ?hd (cs := #[.int .i64 0, .int .i64 0, .int .i64 0]) (t := 54) ?hr ?_; (case hd => rfl); (case hg => rfl); (case hr => first | (go_simp; done) | (go_simp; rfl)); intro gb247 hg w70 hbox hb; have hgc := aaM ((hb.cell (World.block_lt_of_cell? _ _ hgc.out)).trans hgc.out); have hP_ := lQ (lB HB) hb; replace HO_9 := aaM (rrB (rZ HO_9) hb); replace HB := aaM hP_.1; have BK247 := aaM (hbox); have GW247 := aaM (gQ hg hP_.2); have GE247 := aaM (gQ hg hP_.2); obtain ⟨NB230_247, NB247_230⟩ := nS hg BK230; replace BK230 := bY hb BK230; obtain ⟨NB231_247, NB247_231⟩ := nS hg BK231; replace BK231 := bY hb BK231; obtain ⟨NB236_247, NB247_236⟩ := nS hg BK236; replace BK236 := bY hb BK236; clear hb hbox hg hP_; refine hK.out _ _ ⟨(bC BK236.out 0).trans rfl, (bC BK236.out 1).trans rfl, (bC BK236.out 2).trans rfl, (bC BK230.out 0).trans rfl, (bC BK230.out 1).trans rfl, (bC BK230.out 2).trans rfl, (bC BK230.out 3).trans rfl, (bC BK230.out 4).trans rfl, ((HB.out.cell (World.block_lt_of_cell? w _ hw242_0)).trans hw242_0), ((HB.out.cell (World.block_lt_of_cell? w _ hw242_1)).trans hw242_1), ((HB.out.cell (World.block_lt_of_cell? w _ hw242_2)).trans hw242_2)⟩ (fun hHeld => ?_); clear hK K; refine nU 15 ?_
                   refine oU 7 (some 92) (qB 14 2303) HT_ (fun K hK => ?_); refine goesC_ Try.func61 (by kernel_rfl) rfl #[.agg #[.int .i64 x237000_2, .int .i64 x237001_2, .int .i64 x237002_2], .agg #[.int .i64 ((rd_T54 l0_4 x11_2).f0), .int .i64 ((rd_T54 l0_4 x11_2).f1), .int .i64 ((rd_T54 l0_4 x11_2).f2)]] #[.pointer (some ⟨gc, 0, none⟩)] #[.agg #[.int .i64 x237000_2, .int .i64 x237001_2, .int .i64 x237002_2], .agg #[.int .i64 ((rd_T54 l0_4 x11_2).f0), .int .i64 ((rd_T54 l0_4 x11_2).f1), .int .i64 ((rd_T54 l0_4 x11_2).f2)], .pointer (some ⟨gc, 0, none⟩)] rfl (by rfl) rfl rfl rfl mG ?_; (with_reducible refine (hist_moments_1.calls x237000_2 x237001_2 x237002_2 ((rd_T54 l0_4 x11_2).f0) ((rd_T54 l0_4 x11_2).f1) ((rd_T54 l0_4 x11_2).f2) t243 t244 t245 t246 gc _ hgc.out A64.out).mono ?_); rintro e w71 ⟨rfl, hb⟩; refine ⟨_, rfl, ?_⟩; replace HO_9 := aaM (rrB (rZ HO_9) hb); replace BK230 := bY hb BK230; replace BK231 := bY hb BK231; replace BK236 := bY hb BK236; replace BK247 := bY hb BK247; replace HB := aaM (lP (lB HB) hb); (try clear hb); (try clear hb2); (try clear hk); (try clear hi); refine hK.out _ _ ⟨(bC BK236.out 0).trans rfl, (bC BK236.out 1).trans rfl, (bC BK236.out 2).trans rfl, (bC BK230.out 0).trans rfl, (bC BK230.out 1).trans rfl, (bC BK230.out 2).trans rfl, (bC BK230.out 3).trans rfl, (bC BK230.out 4).trans rfl, ((HB.out.cell (World.block_lt_of_cell? w _ hw242_0)).trans hw242_0), ((HB.out.cell (World.block_lt_of_cell? w _ hw242_1)).trans hw242_1), ((HB.out.cell (World.block_lt_of_cell? w _ hw242_2)).trans hw242_2)⟩ (fun hHeld => ?_); clear hK K; refine nU 92 ?_
                   refine pU 8 84 (qB 14 2559) HT_ ?_
                   refine pU 9 93 (qB 14 3071) HT_ ?_
                   refine pU 10 94 (qB 14 4095) HT_ ?_
                   exact norm_ (by simp only [putAll, Act.put, ssB, ssZ, ssS]) (hCont (gb247, gc) _ ⟨hHeld, (rZ HO_9), (bZ BK230), (bZ BK231), (bZ BK236), (bZ BK247), GW247.out, GE247.out, NB230_247.out, NB247_230.out, NB231_247.out, NB247_231.out, NB236_247.out, NB247_236.out, (lB HB)⟩)
                 ·skip
                  refine box_step ?hg (N := 15) ?hd (cs := #[.int .i64 0, .int .i64 0, .int .i64 0]) (t := 54) ?hr ?_; (case hd => rfl); (case hg => rfl); (case hr => first | (go_simp; done) | (go_simp; rfl)); intro gb247 hg w70 hbox hb; have hP_ := lQ (lB HB) hb; replace HO_9 := aaM (rrB (rZ HO_9) hb); replace HB := aaM hP_.1; have BK247 := aaM (hbox); have GW247 := aaM (gQ hg hP_.2); have GE247 := aaM (gQ hg hP_.2); obtain ⟨NB230_247, NB247_230⟩ := nS hg BK230; replace BK230 := bY hb BK230; obtain ⟨NB231_247, NB247_231⟩ := nS hg BK231; replace BK231 := bY hb BK231; obtain ⟨NB236_247, NB247_236⟩ := nS hg BK236; replace BK236 := bY hb BK236; clear hb hbox hg hP_; refine hK.out _ _ ⟨(bC BK236.out 0).trans rfl, (bC BK236.out 1).trans rfl, (bC BK236.out 2).trans rfl, (bC BK230.out 0).trans rfl, (bC BK230.out 1).trans rfl, (bC BK230.out 2).trans rfl, (bC BK230.out 3).trans rfl, (bC BK230.out 4).trans rfl, ((HB.out.cell (World.block_lt_of_cell? w _ hw242_0)).trans hw242_0), ((HB.out.cell (World.block_lt_of_cell? w _ hw242_1)).trans hw242_1), ((HB.out.cell (World.block_lt_of_cell? w _ hw242_2)).trans hw242_2)⟩ (fun hHeld => ?_); clear hK K; refine nU 15 ?_
                  refine oU 0 (some 85) (qB 14 2175) HT_ (fun K hK => ?_); refine goes_ Try.func49 (by kernel_rfl) rfl #[.func (.func 50) #[] #[]] (by rfl) rfl rfl (by first | rfl | simp [Act.eval]) ?_; (with_reducible refine (hist_moments.calls _).mono ?_); rintro e w71c ⟨gc, rfl, hgc_, hb⟩; have hgc := aaM hgc_; clear hgc_; refine ⟨_, rfl, ?_⟩; replace HO_9 := aaM (rrB (rZ HO_9) hb); replace BK230 := bY hb BK230; replace BK231 := bY hb BK231; replace BK236 := bY hb BK236; replace BK247 := bY hb BK247; replace HB := aaM (lP (lB HB) hb); (try clear hb); (try clear hb2); (try clear hk); (try clear hi); refine hK.out _ _ ⟨(bC BK236.out 0).trans rfl, (bC BK236.out 1).trans rfl, (bC BK236.out 2).trans rfl, (bC BK230.out 0).trans rfl, (bC BK230.out 1).trans rfl, (bC BK230.out 2).trans rfl, (bC BK230.out 3).trans rfl, (bC BK230.out 4).trans rfl, ((HB.out.cell (World.block_lt_of_cell? w _ hw242_0)).trans hw242_0), ((HB.out.cell (World.block_lt_of_cell? w _ hw242_1)).trans hw242_1), ((HB.out.cell (World.block_lt_of_cell? w _ hw242_2)).trans hw242_2)⟩ (fun hHeld => ?_); clear hK K; refine nU 85 ?_
                  refine oU 7 (some 92) (qB 14 2303) HT_ (fun K hK => ?_); refine goesC_ Try.func61 (by kernel_rfl) rfl #[.agg #[.int .i64 x237000_2, .int .i64 x237001_2, .int .i64 x237002_2], .agg #[.int .i64 ((rd_T54 l0_4 x11_2).f0), .int .i64 ((rd_T54 l0_4 x11_2).f1), .int .i64 ((rd_T54 l0_4 x11_2).f2)]] #[.pointer (some ⟨gc, 0, none⟩)] #[.agg #[.int .i64 x237000_2, .int .i64 x237001_2, .int .i64 x237002_2], .agg #[.int .i64 ((rd_T54 l0_4 x11_2).f0), .int .i64 ((rd_T54 l0_4 x11_2).f1), .int .i64 ((rd_T54 l0_4 x11_2).f2)], .pointer (some ⟨gc, 0, none⟩)] rfl (by rfl) rfl rfl rfl mG ?_; (with_reducible refine (hist_moments_1.calls x237000_2 x237001_2 x237002_2 ((rd_T54 l0_4 x11_2).f0) ((rd_T54 l0_4 x11_2).f1) ((rd_T54 l0_4 x11_2).f2) t243 t244 t245 t246 gc _ hgc.out A64.out).mono ?_); rintro e w71 ⟨rfl, hb⟩; refine ⟨_, rfl, ?_⟩; replace HO_9 := aaM (rrB (rZ HO_9) hb); replace BK230 := bY hb BK230; replace BK231 := bY hb BK231; replace BK236 := bY hb BK236; replace BK247 := bY hb BK247; replace HB := aaM (lP (lB HB) hb); (try clear hb); (try clear hb2); (try clear hk); (try clear hi); refine hK.out _ _ ⟨(bC BK236.out 0).trans rfl, (bC BK236.out 1).trans rfl, (bC BK236.out 2).trans rfl, (bC BK230.out 0).trans rfl, (bC BK230.out 1).trans rfl, (bC BK230.out 2).trans rfl, (bC BK230.out 3).trans rfl, (bC BK230.out 4).trans rfl, ((HB.out.cell (World.block_lt_of_cell? w _ hw242_0)).trans hw242_0), ((HB.out.cell (World.block_lt_of_cell? w _ hw242_1)).trans hw242_1), ((HB.out.cell (World.block_lt_of_cell? w _ hw242_2)).trans hw242_2)⟩ (fun hHeld => ?_); clear hK K; refine nU 92 ?_
                  refine pU 8 84 (qB 14 2559) HT_ ?_
                  refine pU 9 93 (qB 14 3071) HT_ ?_
                  refine pU 10 94 (qB 14 4095) HT_ ?_
                  exact norm_ (by simp only [putAll, Act.put, ssB, ssZ, ssS]) (hCont (gb247, gc) _ ⟨hHeld, (rZ HO_9), (bZ BK230), (bZ BK231), (bZ BK236), (bZ BK247), GW247.out, GE247.out, NB230_247.out, NB247_230.out, NB231_247.out, NB247_231.out, NB236_247.out, NB247_236.out, (lB HB)⟩)
                rintro ⟨gb247, gc⟩ w72 ⟨hS_, h0_, h1_, h2_, h3_, h4_, h5_, h6_, h7_, h8_, h9_, h10_, h11_, h12_, h13_⟩; have n0_ : Aside0 (Kd.R (Kd.int .i64) 2 w72 w.heap.size (fun _ => True) (.slice Ao44 x9_3.length co44) x9_3) := ⟨h0_⟩; have n1_ : Aside0 (w72.heap[gb230]? = some (.cells #[.int .i64 a0_0, .int .i64 a0_1, .int .i64 a0_2, .slice A0_3 l0_3.length c0_3, .slice (some ad242) l0_4.length c0_4] 25 (0, 0))) := ⟨h1_⟩; have n2_ : Aside0 (w72.heap[gb231]? = some (.cells #[.int .i64 x232000_3, .int .i64 x232001_3, .int .i64 x232002_3] 54 (0, 0))) := ⟨h2_⟩; have n3_ : Aside0 (w72.heap[gb236]? = some (.cells #[.int .i64 x237000_2, .int .i64 x237001_2, .int .i64 x237002_2] 54 (0, 0))) := ⟨h3_⟩; have n4_ : Aside0 (w72.heap[gb247]? = some (.cells #[.int .i64 0, .int .i64 0, .int .i64 0] 54 (0, 0))) := ⟨h4_⟩; have n5_ : Aside0 (w.heap.size ≤ gb247) := ⟨h5_⟩; have n6_ : Aside0 (w.heap.size ≤ gb247) := ⟨h6_⟩; have n7_ : Aside0 (gb230 ≠ gb247) := ⟨h7_⟩; have n8_ : Aside0 (gb247 ≠ gb230) := ⟨h8_⟩; have n9_ : Aside0 (gb231 ≠ gb247) := ⟨h9_⟩; have n10_ : Aside0 (gb247 ≠ gb231) := ⟨h10_⟩; have n11_ : Aside0 (gb236 ≠ gb247) := ⟨h11_⟩; have n12_ : Aside0 (gb247 ≠ gb236) := ⟨h12_⟩; have n13_ : Aside0 (Below w.heap.size w w72) := ⟨h13_⟩; clear HO_9 BK230 BK231 BK236 HB h0_ h1_ h2_ h3_ h4_ h5_ h6_ h7_ h8_ h9_ h10_ h11_ h12_ h13_; have HO_9 := n0_; have BK230 := n1_; have BK231 := n2_; have BK236 := n3_; have BK247 := n4_; have GW247 := n5_; have GE247 := n6_; have NB230_247 := n7_; have NB247_230 := n8_; have NB231_247 := n9_; have NB247_231 := n10_; have NB236_247 := n11_; have NB247_236 := n12_; have HB := n13_; clear n0_ n1_ n2_ n3_ n4_ n5_ n6_ n7_ n8_ n9_ n10_ n11_ n12_ n13_; have hHeld : w72.cell? ⟨gb236, 0, none⟩ = some (.int .i64 x237000_2) ∧ w72.cell? ⟨gb236, 1, none⟩ = some (.int .i64 x237001_2) ∧ w72.cell? ⟨gb236, 2, none⟩ = some (.int .i64 x237002_2) ∧ w72.cell? ⟨gb230, 0, none⟩ = some (.int .i64 a0_0) ∧ w72.cell? ⟨gb230, 1, none⟩ = some (.int .i64 a0_1) ∧ w72.cell? ⟨gb230, 2, none⟩ = some (.int .i64 a0_2) ∧ w72.cell? ⟨gb230, 3, none⟩ = some (.slice A0_3 l0_3.length c0_3) ∧ w72.cell? ⟨gb230, 4, none⟩ = some (.slice (some ad242) l0_4.length c0_4) ∧ w72.cell? (ad242.add ((x11_2).toNat * 3)) = some (.int .i64 ((rd_T54 l0_4 x11_2).f0)) ∧ w72.cell? ⟨(ad242.add ((x11_2).toNat * 3)).block, (ad242.add ((x11_2).toNat * 3)).off + 1, none⟩ = some (.int .i64 ((rd_T54 l0_4 x11_2).f1)) ∧ w72.cell? ⟨(ad242.add ((x11_2).toNat * 3)).block, (ad242.add ((x11_2).toNat * 3)).off + 2, none⟩ = some (.int .i64 ((rd_T54 l0_4 x11_2).f2)) := hS_; refine norm_ (a' := ?_) ?_ ?_; rotate_left
                ·simp only [putAll, Act.put, ssB, ssZ, ssS]
                 rfl
                refine oU 12 none (qB 14 8191) HT_ (fun K hK => ?_); obtain ⟨hs73, -, -, hfs73, -, -⟩ := bE3 BK247.out; have := NB230_247.out; have := NB231_247.out; have := NB236_247.out; have := NB247_230.out; have := NB247_231.out; have := NB247_236.out; obtain ⟨-, hs74, -, -, hfs74, -⟩ := bE3 BK247.out; have := NB230_247.out; have := NB231_247.out; have := NB236_247.out; have := NB247_230.out; have := NB247_231.out; have := NB247_236.out; obtain ⟨-, -, hs75, -, -, hfs75⟩ := bE3 BK247.out; have := NB230_247.out; have := NB231_247.out; have := NB236_247.out; have := NB247_230.out; have := NB247_231.out; have := NB247_236.out; refine skip_ (w1 := ?_) (by rfl) rfl ?_ ?_; rotate_left
                ·go_simp
                 rfl
                refine hK.out _ _ ⟨((cell_far (p := ⟨gb247, _, none⟩) NB236_247.out _).trans (((cell_far (p := ⟨gb247, _, none⟩) NB236_247.out _).trans (((cell_far (p := ⟨gb247, _, none⟩) NB236_247.out _).trans (hHeld.1)))))), ((cell_far (p := ⟨gb247, _, none⟩) NB236_247.out _).trans (((cell_far (p := ⟨gb247, _, none⟩) NB236_247.out _).trans (((cell_far (p := ⟨gb247, _, none⟩) NB236_247.out _).trans (hHeld.2.1)))))), ((cell_far (p := ⟨gb247, _, none⟩) NB236_247.out _).trans (((cell_far (p := ⟨gb247, _, none⟩) NB236_247.out _).trans (((cell_far (p := ⟨gb247, _, none⟩) NB236_247.out _).trans (hHeld.2.2.1)))))), ((cell_far (p := ⟨gb247, _, none⟩) NB230_247.out _).trans (((cell_far (p := ⟨gb247, _, none⟩) NB230_247.out _).trans (((cell_far (p := ⟨gb247, _, none⟩) NB230_247.out _).trans (hHeld.2.2.2.1)))))), ((cell_far (p := ⟨gb247, _, none⟩) NB230_247.out _).trans (((cell_far (p := ⟨gb247, _, none⟩) NB230_247.out _).trans (((cell_far (p := ⟨gb247, _, none⟩) NB230_247.out _).trans (hHeld.2.2.2.2.1)))))), ((cell_far (p := ⟨gb247, _, none⟩) NB230_247.out _).trans (((cell_far (p := ⟨gb247, _, none⟩) NB230_247.out _).trans (((cell_far (p := ⟨gb247, _, none⟩) NB230_247.out _).trans (hHeld.2.2.2.2.2.1)))))), ((cell_far (p := ⟨gb247, _, none⟩) NB230_247.out _).trans (((cell_far (p := ⟨gb247, _, none⟩) NB230_247.out _).trans (((cell_far (p := ⟨gb247, _, none⟩) NB230_247.out _).trans (hHeld.2.2.2.2.2.2.1)))))), ((cell_far (p := ⟨gb247, _, none⟩) NB230_247.out _).trans (((cell_far (p := ⟨gb247, _, none⟩) NB230_247.out _).trans (((cell_far (p := ⟨gb247, _, none⟩) NB230_247.out _).trans (hHeld.2.2.2.2.2.2.2.1)))))), ((cell_far (p := ⟨gb247, _, none⟩) (by first | exact Nat.ne_of_lt (Nat.lt_of_lt_of_le (by have := World.block_lt_of_cell? _ _ hw242_0; first | rwa [add_block] at this | exact this) GW247.out) | (rw [add_block]; exact Nat.ne_of_lt (Nat.lt_of_lt_of_le (by have := World.block_lt_of_cell? _ _ hw242_0; first | rwa [add_block] at this | exact this) GW247.out)) | (show (Addr.add _ _).block ≠ _; rw [add_block]; exact Nat.ne_of_lt (Nat.lt_of_lt_of_le (by have := World.block_lt_of_cell? _ _ hw242_0; first | rwa [add_block] at this | exact this) GW247.out)) | (dsimp only; exact Nat.ne_of_lt (Nat.lt_of_lt_of_le (by have := World.block_lt_of_cell? _ _ hw242_0; first | rwa [add_block] at this | exact this) GW247.out))) _).trans (((cell_far (p := ⟨gb247, _, none⟩) (by first | exact Nat.ne_of_lt (Nat.lt_of_lt_of_le (by have := World.block_lt_of_cell? _ _ hw242_0; first | rwa [add_block] at this | exact this) GW247.out) | (rw [add_block]; exact Nat.ne_of_lt (Nat.lt_of_lt_of_le (by have := World.block_lt_of_cell? _ _ hw242_0; first | rwa [add_block] at this | exact this) GW247.out)) | (show (Addr.add _ _).block ≠ _; rw [add_block]; exact Nat.ne_of_lt (Nat.lt_of_lt_of_le (by have := World.block_lt_of_cell? _ _ hw242_0; first | rwa [add_block] at this | exact this) GW247.out)) | (dsimp only; exact Nat.ne_of_lt (Nat.lt_of_lt_of_le (by have := World.block_lt_of_cell? _ _ hw242_0; first | rwa [add_block] at this | exact this) GW247.out))) _).trans (((cell_far (p := ⟨gb247, _, none⟩) (by first | exact Nat.ne_of_lt (Nat.lt_of_lt_of_le (by have := World.block_lt_of_cell? _ _ hw242_0; first | rwa [add_block] at this | exact this) GW247.out) | (rw [add_block]; exact Nat.ne_of_lt (Nat.lt_of_lt_of_le (by have := World.block_lt_of_cell? _ _ hw242_0; first | rwa [add_block] at this | exact this) GW247.out)) | (show (Addr.add _ _).block ≠ _; rw [add_block]; exact Nat.ne_of_lt (Nat.lt_of_lt_of_le (by have := World.block_lt_of_cell? _ _ hw242_0; first | rwa [add_block] at this | exact this) GW247.out)) | (dsimp only; exact Nat.ne_of_lt (Nat.lt_of_lt_of_le (by have := World.block_lt_of_cell? _ _ hw242_0; first | rwa [add_block] at this | exact this) GW247.out))) _).trans (hHeld.2.2.2.2.2.2.2.2.1)))))), ((cell_far (p := ⟨gb247, _, none⟩) (by first | exact Nat.ne_of_lt (Nat.lt_of_lt_of_le (by have := World.block_lt_of_cell? _ _ hw242_1; first | rwa [add_block] at this | exact this) GW247.out) | (rw [add_block]; exact Nat.ne_of_lt (Nat.lt_of_lt_of_le (by have := World.block_lt_of_cell? _ _ hw242_1; first | rwa [add_block] at this | exact this) GW247.out)) | (show (Addr.add _ _).block ≠ _; rw [add_block]; exact Nat.ne_of_lt (Nat.lt_of_lt_of_le (by have := World.block_lt_of_cell? _ _ hw242_1; first | rwa [add_block] at this | exact this) GW247.out)) | (dsimp only; exact Nat.ne_of_lt (Nat.lt_of_lt_of_le (by have := World.block_lt_of_cell? _ _ hw242_1; first | rwa [add_block] at this | exact this) GW247.out))) _).trans (((cell_far (p := ⟨gb247, _, none⟩) (by first | exact Nat.ne_of_lt (Nat.lt_of_lt_of_le (by have := World.block_lt_of_cell? _ _ hw242_1; first | rwa [add_block] at this | exact this) GW247.out) | (rw [add_block]; exact Nat.ne_of_lt (Nat.lt_of_lt_of_le (by have := World.block_lt_of_cell? _ _ hw242_1; first | rwa [add_block] at this | exact this) GW247.out)) | (show (Addr.add _ _).block ≠ _; rw [add_block]; exact Nat.ne_of_lt (Nat.lt_of_lt_of_le (by have := World.block_lt_of_cell? _ _ hw242_1; first | rwa [add_block] at this | exact this) GW247.out)) | (dsimp only; exact Nat.ne_of_lt (Nat.lt_of_lt_of_le (by have := World.block_lt_of_cell? _ _ hw242_1; first | rwa [add_block] at this | exact this) GW247.out))) _).trans (((cell_far (p := ⟨gb247, _, none⟩) (by first | exact Nat.ne_of_lt (Nat.lt_of_lt_of_le (by have := World.block_lt_of_cell? _ _ hw242_1; first | rwa [add_block] at this | exact this) GW247.out) | (rw [add_block]; exact Nat.ne_of_lt (Nat.lt_of_lt_of_le (by have := World.block_lt_of_cell? _ _ hw242_1; first | rwa [add_block] at this | exact this) GW247.out)) | (show (Addr.add _ _).block ≠ _; rw [add_block]; exact Nat.ne_of_lt (Nat.lt_of_lt_of_le (by have := World.block_lt_of_cell? _ _ hw242_1; first | rwa [add_block] at this | exact this) GW247.out)) | (dsimp only; exact Nat.ne_of_lt (Nat.lt_of_lt_of_le (by have := World.block_lt_of_cell? _ _ hw242_1; first | rwa [add_block] at this | exact this) GW247.out))) _).trans (hHeld.2.2.2.2.2.2.2.2.2.1)))))), ((cell_far (p := ⟨gb247, _, none⟩) (by first | exact Nat.ne_of_lt (Nat.lt_of_lt_of_le (by have := World.block_lt_of_cell? _ _ hw242_2; first | rwa [add_block] at this | exact this) GW247.out) | (rw [add_block]; exact Nat.ne_of_lt (Nat.lt_of_lt_of_le (by have := World.block_lt_of_cell? _ _ hw242_2; first | rwa [add_block] at this | exact this) GW247.out)) | (show (Addr.add _ _).block ≠ _; rw [add_block]; exact Nat.ne_of_lt (Nat.lt_of_lt_of_le (by have := World.block_lt_of_cell? _ _ hw242_2; first | rwa [add_block] at this | exact this) GW247.out)) | (dsimp only; exact Nat.ne_of_lt (Nat.lt_of_lt_of_le (by have := World.block_lt_of_cell? _ _ hw242_2; first | rwa [add_block] at this | exact this) GW247.out))) _).trans (((cell_far (p := ⟨gb247, _, none⟩) (by first | exact Nat.ne_of_lt (Nat.lt_of_lt_of_le (by have := World.block_lt_of_cell? _ _ hw242_2; first | rwa [add_block] at this | exact this) GW247.out) | (rw [add_block]; exact Nat.ne_of_lt (Nat.lt_of_lt_of_le (by have := World.block_lt_of_cell? _ _ hw242_2; first | rwa [add_block] at this | exact this) GW247.out)) | (show (Addr.add _ _).block ≠ _; rw [add_block]; exact Nat.ne_of_lt (Nat.lt_of_lt_of_le (by have := World.block_lt_of_cell? _ _ hw242_2; first | rwa [add_block] at this | exact this) GW247.out)) | (dsimp only; exact Nat.ne_of_lt (Nat.lt_of_lt_of_le (by have := World.block_lt_of_cell? _ _ hw242_2; first | rwa [add_block] at this | exact this) GW247.out))) _).trans (((cell_far (p := ⟨gb247, _, none⟩) (by first | exact Nat.ne_of_lt (Nat.lt_of_lt_of_le (by have := World.block_lt_of_cell? _ _ hw242_2; first | rwa [add_block] at this | exact this) GW247.out) | (rw [add_block]; exact Nat.ne_of_lt (Nat.lt_of_lt_of_le (by have := World.block_lt_of_cell? _ _ hw242_2; first | rwa [add_block] at this | exact this) GW247.out)) | (show (Addr.add _ _).block ≠ _; rw [add_block]; exact Nat.ne_of_lt (Nat.lt_of_lt_of_le (by have := World.block_lt_of_cell? _ _ hw242_2; first | rwa [add_block] at this | exact this) GW247.out)) | (dsimp only; exact Nat.ne_of_lt (Nat.lt_of_lt_of_le (by have := World.block_lt_of_cell? _ _ hw242_2; first | rwa [add_block] at this | exact this) GW247.out))) _).trans (hHeld.2.2.2.2.2.2.2.2.2.2))))))⟩ (fun hHeld => ?_)
                clear hK K; refine pU 13 16 (qB 14 16383) HT_ ?_
                refine done_ (done_of HT_.out (by kernel_rfl)) ?_
                by_cases c65 : t246 = 0
                ·rw [if_pos c65] at H
                 have c65b0 : (t246 == 0) = true := beq_iff_eq.mpr c65; have c65b1 : (t246 != 0) = false := bne_eq_false_iff_eq.mpr c65; clear c65; have H' := aaM H; clear H; have := NB247_230.out; have := NB230_247.out; have := NB247_231.out; have := NB231_247.out; have := NB247_236.out; have := NB236_247.out; obtain ⟨_, _, _, _, _, _⟩ := bE3 BK247.out; have := NB236_231.out; have := NB231_236.out; obtain ⟨_, _, _, _, _, _⟩ := bE3 BK236.out; (try go_wp2); (try simp only [← hl9_3])
                 go_roundg k3
                 case measure => have := HJ27.out; have := HK2.out; have := HK3.out; omega
                 case rel => exact ⟨(x9_3), (wrap64 (x11_2 + 1)), (x232000_3), (x232001_3), (x232002_3), (t243), (t244), (t245), (eF), H', ⟨by have := HJ27.out; have := HK2.out; have := HK3.out; omega⟩, ⟨by (try simp only [hl9_3]); (with_reducible repeat (first | apply rrA | apply rrN | apply rrD)); exact Kd.R_mono (rrF (p := ⟨gb236, 2, none⟩) (rrF (p := ⟨gb236, 1, none⟩) (rrF (p := ⟨gb236, 0, none⟩) (rrF (p := ⟨gb247, 2, none⟩) (rrF (p := ⟨gb247, 1, none⟩) (rrF (p := ⟨gb247, 0, none⟩) (Kd.R_types (Kd.R_types HO_9.out BK247.out (by decide)) BK236.out (by decide)) (fun _ hk => hk.1.2) (.int .i64 t243)) (fun _ hk => hk.1.2) (.int .i64 t244)) (fun _ hk => hk.1.2) (.int .i64 t245)) (fun _ hk => hk.2) (.int .i64 t243)) (fun _ hk => hk.2) (.int .i64 t244)) (fun _ hk => hk.2) (.int .i64 t245)) (fun _ hk => trivial)⟩, ⟨by (try simp only [hl9_3]); (with_reducible repeat (first | refine bN ?_ _ | refine bD ?_ | refine bA ?_ _)); refine blk_far ?_ NB230_236.out _; (with_reducible repeat (first | refine bN ?_ _ | refine bD ?_ | refine bA ?_ _)); refine blk_far ?_ NB230_236.out _; (with_reducible repeat (first | refine bN ?_ _ | refine bD ?_ | refine bA ?_ _)); refine blk_far ?_ NB230_236.out _; (with_reducible repeat (first | refine bN ?_ _ | refine bD ?_ | refine bA ?_ _)); refine blk_far ?_ NB230_247.out _; (with_reducible repeat (first | refine bN ?_ _ | refine bD ?_ | refine bA ?_ _)); refine blk_far ?_ NB230_247.out _; (with_reducible repeat (first | refine bN ?_ _ | refine bD ?_ | refine bA ?_ _)); refine blk_far ?_ NB230_247.out _; (with_reducible repeat (first | refine bN ?_ _ | refine bD ?_ | refine bA ?_ _)); exact BK230.out⟩, ⟨by (try simp only [hl9_3]); (with_reducible repeat (first | refine bN ?_ _ | refine bD ?_ | refine bA ?_ _)); refine blk_far ?_ NB231_236.out _; (with_reducible repeat (first | refine bN ?_ _ | refine bD ?_ | refine bA ?_ _)); refine blk_far ?_ NB231_236.out _; (with_reducible repeat (first | refine bN ?_ _ | refine bD ?_ | refine bA ?_ _)); refine blk_far ?_ NB231_236.out _; (with_reducible repeat (first | refine bN ?_ _ | refine bD ?_ | refine bA ?_ _)); refine blk_far ?_ NB231_247.out _; (with_reducible repeat (first | refine bN ?_ _ | refine bD ?_ | refine bA ?_ _)); refine blk_far ?_ NB231_247.out _; (with_reducible repeat (first | refine bN ?_ _ | refine bD ?_ | refine bA ?_ _)); refine blk_far ?_ NB231_247.out _; (with_reducible repeat (first | refine bN ?_ _ | refine bD ?_ | refine bA ?_ _)); exact BK231.out⟩, ⟨by (try simp only [hl9_3]); (with_reducible repeat (first | refine bN ?_ _ | refine bD ?_ | refine bA ?_ _)); refine blk_put (cs := #[.int .i64 t243, .int .i64 t244, .int .i64 x237002_2]) ?_ 2 _ rfl; (with_reducible repeat (first | refine bN ?_ _ | refine bD ?_ | refine bA ?_ _)); refine blk_put (cs := #[.int .i64 t243, .int .i64 x237001_2, .int .i64 x237002_2]) ?_ 1 _ rfl; (with_reducible repeat (first | refine bN ?_ _ | refine bD ?_ | refine bA ?_ _)); refine blk_put (cs := #[.int .i64 x237000_2, .int .i64 x237001_2, .int .i64 x237002_2]) ?_ 0 _ rfl; (with_reducible repeat (first | refine bN ?_ _ | refine bD ?_ | refine bA ?_ _)); refine blk_far ?_ NB236_247.out _; (with_reducible repeat (first | refine bN ?_ _ | refine bD ?_ | refine bA ?_ _)); refine blk_far ?_ NB236_247.out _; (with_reducible repeat (first | refine bN ?_ _ | refine bD ?_ | refine bA ?_ _)); refine blk_far ?_ NB236_247.out _; (with_reducible repeat (first | refine bN ?_ _ | refine bD ?_ | refine bA ?_ _)); exact BK236.out⟩, ⟨lB HB⟩⟩
                ·rw [if_neg c65] at H
                 have c65b0 : (t246 == 0) = false := beq_eq_false_iff_ne.mpr c65; have c65b1 : (t246 != 0) = true := bne_iff_ne.mpr c65; simp only [Option.some.injEq, Prod.mk.injEq] at H; obtain ⟨rfl, rfl, rfl, rfl, rfl⟩ := H; have := NB231_236.out; have := NB236_231.out; have := NB231_247.out; have := NB247_231.out; obtain ⟨_, _, _, _, _, _⟩ := bE3 BK231.out; (try go_wp2); refine bodyPost_ret (results_list (rs := [.tmp 6, .cell 7 54, .tmp 8]) rfl (by simp) (.tmp (.cell gb231 54 #[.int .i64 0, .int .i64 0, .int .i64 0] (0, 0) _ rfl (bZ BK231) Try.underlying54 rfl (by kernel_rfl) (.tmp .nil)))) rfl ?_
                 exact ⟨_, eE, by first | exact Kd.R_nil _ _ _ _ _ | exact Kd.N_nil _ _ _ _ _ | exact Kd.V_nil _ _ _ _ _ | exact Kd.Q_nil _ _ _ _ _ | exact Kd.S_nil _ _ _ _ _, lB HB⟩
               ·rw [if_neg c63] at H
                exact absurd H (by simp)
              ·rw [if_neg c62] at H
               exact absurd H (by simp)
             ·rw [if_neg c61] at H
              have c61b0 : (a0_0 == 1) = false := beq_eq_false_iff_ne.mpr c61; have c61b1 : (a0_0 != 1) = true := bne_iff_ne.mpr c61; have H' := aaM H; clear H; have := NB230_231.out; have := NB231_230.out; have := NB230_236.out; have := NB236_230.out; obtain ⟨_, _, _, _, _, _, _, _, _, _⟩ := bE5 BK230.out; go_wp2; (try simp only [← hl9_3])
              go_roundg k3
              case measure => have := HJ27.out; have := HK2.out; have := HK3.out; omega
              case rel => exact ⟨(x9_3), (wrap64 (x11_2 + 1)), (x232000_3), (x232001_3), (x232002_3), (x237000_2), (x237001_2), (x237002_2), (eF), H', ⟨by have := HJ27.out; have := HK2.out; have := HK3.out; omega⟩, ⟨by (try simp only [hl9_3]); (with_reducible repeat (first | apply rrA | apply rrN | apply rrD)); exact HO_9.out⟩, ⟨by (try simp only [hl9_3]); (with_reducible repeat (first | refine bN ?_ _ | refine bD ?_ | refine bA ?_ _)); exact BK230.out⟩, ⟨by (try simp only [hl9_3]); (with_reducible repeat (first | refine bN ?_ _ | refine bD ?_ | refine bA ?_ _)); exact BK231.out⟩, ⟨by (try simp only [hl9_3]); (with_reducible repeat (first | refine bN ?_ _ | refine bD ?_ | refine bA ?_ _)); exact BK236.out⟩, ⟨lB HB⟩⟩
         ·rw [if_neg c43] at H
          have c43b0 : decide (x11_2 < a2) = false := decide_eq_false c43; clear c43; simp only [Option.some.injEq, Prod.mk.injEq] at H; obtain ⟨rfl, rfl, rfl, rfl, rfl⟩ := H; (try go_wp2); replace HO_9 := aaM (rrD HO_9.out); replace BK230 := aaM (bD BK230.out); replace BK231 := aaM (bD BK231.out); replace BK236 := aaM (bD BK236.out); replace HB := aaM (lD HB.out); refine start_ (n := 5) (S := fun w' => w'.cell? ⟨gb236, 0, none⟩ = some (.int .i64 x237000_2) ∧ w'.cell? ⟨gb236, 1, none⟩ = some (.int .i64 x237001_2) ∧ w'.cell? ⟨gb236, 2, none⟩ = some (.int .i64 x237002_2)) (ds := []) _ (by kernel_rfl) rfl rfl hD (fun hHeld => ?_); generalize wr.drew = w98 at HO_9 BK230 BK231 BK236 HB hHeld ⊢; refine pure_ (i := 0) (N := some 100) (v := ?_) (a' := ?_) (qB 5 1) rfl rfl (by kernel_rfl) (fun _ _ _ h => h) (Or.inl ⟨by rfl, ?_⟩) ?_ ?_; rotate_left
          ·intro w'
           go_simp; (with_reducible rfl)
          rotate_left
          ·simp only [Act.put, ssB, ssZ, ssS, i64_w, i32_w]
           rfl
          refine pure_ (i := 2) (N := some 6) (v := ?_) (a' := ?_) (qB 5 5) rfl rfl (by kernel_rfl) (fun _ _ _ h => h) (Or.inl ⟨by rfl, ?_⟩) ?_ ?_; rotate_left
          ·intro w'
           go_simp; (with_reducible rfl)
          rotate_left
          ·simp only [Act.put, ssB, ssZ, ssS, i64_w, i32_w]
           rfl
          refine take_ (i := 1) (N := some 101) (v := ?_) (a' := ?_) (qB 5 7) rfl rfl (by kernel_rfl) (fun _ _ _ h => h) (Or.inl ⟨by rfl, ?_⟩) hHeld ?_ ?_; rotate_left
          ·rintro w' ⟨s0, s1, s2⟩
           go_simp; (with_reducible rfl)
          rotate_left
          ·simp only [Act.put, ssB, ssZ, ssS, i64_w, i32_w]
           rfl
          refine one_ (i := 3) (N := none) (qB 5 15) rfl rfl (by kernel_rfl) (by decide) (fun K hK => ?_); obtain ⟨hs99, -, -, hfs99, -, -⟩ := bE3 BK231.out; have := NB230_231.out; have := NB236_231.out; have := NB231_230.out; have := NB231_236.out; obtain ⟨-, hs100, -, -, hfs100, -⟩ := bE3 BK231.out; have := NB230_231.out; have := NB236_231.out; have := NB231_230.out; have := NB231_236.out; obtain ⟨-, -, hs101, -, -, hfs101⟩ := bE3 BK231.out; have := NB230_231.out; have := NB236_231.out; have := NB231_230.out; have := NB231_236.out; refine skip_ (w1 := ?_) (by rfl) rfl ?_ ?_; rotate_left
          ·go_simp
           rfl
          refine hK.out _ _ (cH hHeld) (fun hHeld => ?_); clear hK K; refine pure_ (i := 4) (N := some 8) (v := ?_) (a' := ?_) (qB 5 31) rfl rfl (by kernel_rfl) (fun _ _ _ h => h) (Or.inl ⟨by rfl, ?_⟩) ?_ ?_; rotate_left
          ·intro w'
           go_simp; (with_reducible rfl)
          rotate_left
          ·simp only [Act.put, ssB, ssZ, ssS, i64_w, i32_w]
           rfl
          refine done_ (by kernel_rfl) ?_; (try go_wp2); refine bodyPost_ret (results_list (rs := [.tmp 6, .cell 7 54, .tmp 8]) rfl (by simp) (.tmp (.cell gb231 54 #[.int .i64 x237000_2, .int .i64 x237001_2, .int .i64 x237002_2] (0, 0) _ rfl (bZ BK231) Try.underlying54 rfl (by kernel_rfl) (.tmp .nil)))) rfl ?_
          exact ⟨_, eE, by (with_reducible repeat (first | apply rrA | apply rrN | apply rrD)); exact Kd.R_mono (rrF (p := ⟨gb231, 2, none⟩) (rrF (p := ⟨gb231, 1, none⟩) (rrF (p := ⟨gb231, 0, none⟩) (Kd.R_types HO_9.out BK231.out (by decide)) (fun _ hk => hk.2) (.int .i64 x237000_2)) (fun _ hk => hk.2) (.int .i64 x237001_2)) (fun _ hk => hk.2) (.int .i64 x237002_2)) (fun _ hk => trivial), lB HB⟩
 ·replace c5 := Bool.eq_false_iff.mpr c5
  subst c5
  have H1 : (some (([] : List Int), 0, 0, 0, 8)) = some (r1, r2, r3, r4, r5) := by rw [if_neg (show ¬ (false = true) by decide)] at H; exact H
  clear H; have H := H1; clear H1; simp only [Option.some.injEq, Prod.mk.injEq] at H; obtain ⟨rfl, rfl, rfl, rfl, rfl⟩ := H; go_enter Try.func34, Try.ntmps34
  go_wp2_with (first | ((with_reducible refine gate_dst (N := 3) rfl ?_); refine bxF w HB 3 #[.int .i64 a0_0, .int .i64 a0_1, .int .i64 a0_2, .slice A0_3 l0_3.length c0_3, .slice A0_4 l0_4.length c0_4] 25 ?_; intro gb230 hg w102 hb BK230 HB GE230; have GW230 := GE230; clear hb hg) | ((with_reducible refine gate_dst (N := 7) rfl ?_); refine bxF w HB 7 #[.int .i64 0, .int .i64 0, .int .i64 0] 54 ?_; intro gb231 hg w103 hb BK231 HB GE231; have GW231 := GE231; obtain ⟨NB230_231, NB231_230⟩ := nS hg BK230; replace BK230 := bY hb BK230; clear hb hg; have := NB230_231.out; have := NB231_230.out; obtain ⟨_, _, _, _, _, _, _, _, _, _⟩ := bE5 BK230.out) | ((with_reducible refine gate_callee (f := 18) rfl ?_); refine gL (some 19) Try.func18 #[.agg #[.int .i64 a0_0, .int .i64 a0_1, .int .i64 a0_2, .slice A0_3 l0_3.length c0_3, .slice A0_4 l0_4.length c0_4]] ?_; (with_reducible refine (hist_Right.calls a0_0 a0_1 a0_2 _ _ l0_3 _ _ l0_4 false _ ?side1 ?side2 ?side3 ?side4 A4.out).mono ?_); (case side1 => exact cZ (ccB HR0_3.out HB.out)); (case side2 => exact HC0_3.out); (case side3 => exact cZ (ccB HR0_4.out HB.out)); (case side4 => exact HC0_4.out); rintro e w106 ⟨rfl, hb⟩; refine ⟨_, rfl, ?_⟩; replace BK230 := bY hb BK230; replace BK231 := bY hb BK231; replace HB := aaM (lP (lB HB) hb); (try clear hb); (try clear hb2); (try clear hk); (try clear hi); obtain ⟨_, _, _, _, _, _⟩ := bE3 BK231.out))
  refine bodyPost_ret (results_list (rs := [.tmp 6, .cell 7 54, .tmp 8]) rfl (by simp) (.tmp (.cell gb231 54 #[.int .i64 0, .int .i64 0, .int .i64 0] (0, 0) _ rfl (bZ BK231) Try.underlying54 rfl (by kernel_rfl) (.tmp .nil)))) rfl ?_
  exact ⟨_, eE, by first | exact Kd.R_nil _ _ _ _ _ | exact Kd.N_nil _ _ _ _ _ | exact Kd.V_nil _ _ _ _ _ | exact Kd.Q_nil _ _ _ _ _ | exact Kd.S_nil _ _ _ _ _, lB HB⟩

-- NOT PRINTED: function 19 (split_bins)

/-! ### frac_Right: function 20 -/
def frac_Right.f (a0_0 : Int) (a0_1 : Int) (a0_2 : Int) : Option (Bool) := some (a0_2 != 0)
set_option maxHeartbeats 8000000 in
set_option maxRecDepth 100000 in
theorem frac_Right.calls (a0_0 : Int) (a0_1 : Int) (a0_2 : Int) (r : Bool) (w : World) (h : frac_Right.f a0_0 a0_1 a0_2 = some r) :
  Calls Try.prog 20 #[.agg #[.int .u64 a0_0, .int .u64 a0_1, .int .u64 a0_2]] w fun e w' => e = .returned (.bool r) ∧ Below w.heap.size w w' := by
 have hu32 := Try.underlying32
 have HB := aaM (Below.refl w.heap.size w)
 have H : (some (a0_2 != 0)) = some r := h
 clear h
 obtain rfl := Option.some.inj H
 go_enter Try.func20, Try.ntmps20
 go_wp2_with (first | ((with_reducible refine gate_dst (N := 1) rfl ?_); refine bxF w HB 1 #[.int .u64 a0_0, .int .u64 a0_1, .int .u64 a0_2] 32 ?_; intro gb248 hg w2 hb BK248 HB GE248; have GW248 := GE248; clear hb hg; obtain ⟨_, _, _, _, _, _⟩ := bE3 BK248.out))
 all_goals (go_ret; exact ⟨by first | rfl | (simp [errW_none, errW_some] <;> rfl) | (simp [*, errW_none, errW_some] <;> rfl) | (simp_all; done), lB HB⟩)

/-! ### cmp_isNaN_int: function 51 -/
def cmp_isNaN_int.f (a0 : Int) : Option (Bool) := some (a0 != a0)
set_option maxHeartbeats 8000000 in
set_option maxRecDepth 100000 in
theorem cmp_isNaN_int.calls (a0 : Int) (r : Bool) (w : World) (h : cmp_isNaN_int.f a0 = some r) :
  Calls Try.prog 51 #[.int .i64 a0] w fun e w' => e = .returned (.bool r) ∧ Drawn0 w w' := by
 have H : (some (a0 != a0)) = some r := h
 clear h
 obtain rfl := Option.some.inj H
 go_enter Try.func51, Try.ntmps51
 go_wp2
 all_goals (go_ret; exact ⟨eF, by repeat (first | exact Drawn0.refl _ | apply Drawn0.step)⟩)

/-! ### cmp_Compare_int: function 35 -/
def cmp_Compare_int.f (a0 : Int) (a1 : Int) : Option (Int) := (cmp_isNaN_int.f a0).bind fun t249 => ((cmp_isNaN_int.f a1).bind fun t250 => (if t249 = true then (if t250 = true then (some 0) else (some (-1))) else (if t250 = true then (some 1) else (if a0 < a1 then (some (-1)) else (if a0 > a1 then (some 1) else (some 0))))))
set_option maxHeartbeats 8000000 in
set_option maxRecDepth 100000 in
theorem cmp_Compare_int.calls (a0 : Int) (a1 : Int) (r : Int) (w : World) (h : cmp_Compare_int.f a0 a1 = some r) :
  Calls Try.prog 35 #[.int .i64 a0, .int .i64 a1] w fun e w' => e = .returned (.int .i64 r) ∧ Drawn0 w w' := by
 have H : ((cmp_isNaN_int.f a0).bind fun t249 => ((cmp_isNaN_int.f a1).bind fun t250 => (if t249 = true then (if t250 = true then (some 0) else (some (-1))) else (if t250 = true then (some 1) else (if a0 < a1 then (some (-1)) else (if a0 > a1 then (some 1) else (some 0))))))) = some r := h
 clear h
 replace H := ooB.mp H
 obtain ⟨t249, A30, H⟩ := H
 replace H : ((cmp_isNaN_int.f a1).bind fun t250 => (if t249 = true then (if t250 = true then (some 0) else (some (-1))) else (if t250 = true then (some 1) else (if a0 < a1 then (some (-1)) else (if a0 > a1 then (some 1) else (some 0)))))) = some r := H
 have A3 := aaM A30
 clear A30
 replace H := ooB.mp H
 obtain ⟨t250, A40, H⟩ := H
 replace H : (if t249 = true then (if t250 = true then (some 0) else (some (-1))) else (if t250 = true then (some 1) else (if a0 < a1 then (some (-1)) else (if a0 > a1 then (some 1) else (some 0))))) = some r := H
 have A4 := aaM A40
 clear A40
 by_cases c5 : t249 = true
 ·subst c5
  have H1 : (if t250 = true then (some 0) else (some (-1))) = some r := by rw [if_pos rfl] at H; exact H
  clear H; have H := H1; clear H1
  by_cases c6 : t250 = true
  ·subst c6
   have H1 : (some 0) = some r := by rw [if_pos rfl] at H; exact H
   clear H; have H := H1; clear H1; obtain rfl := Option.some.inj H; go_enter Try.func35, Try.ntmps35
   go_wp2_with (first | ((with_reducible refine gate_callee (f := 51) rfl ?_); refine gL (some 8) Try.func51 #[.int .i64 a0] ?_; (with_reducible refine (cmp_isNaN_int.calls a0 true _ A3.out).mono ?_); rintro e w' ⟨rfl, ⟨nd, rfl⟩⟩; refine ⟨_, rfl, ?_⟩) | ((with_reducible refine gate_callee (f := 51) rfl ?_); refine gL (some 10) Try.func51 #[.int .i64 a1] ?_; (with_reducible refine (cmp_isNaN_int.calls a1 true _ A4.out).mono ?_); rintro e w' ⟨rfl, ⟨nd, rfl⟩⟩; refine ⟨_, rfl, ?_⟩))
   all_goals (go_ret; exact ⟨eF, by repeat (first | exact Drawn0.refl _ | apply Drawn0.step)⟩)
  ·replace c6 := Bool.eq_false_iff.mpr c6
   subst c6
   have H1 : (some (-1)) = some r := by rw [if_neg (show ¬ (false = true) by decide)] at H; exact H
   clear H; have H := H1; clear H1; obtain rfl := Option.some.inj H; go_enter Try.func35, Try.ntmps35
   go_wp2_with (first | ((with_reducible refine gate_callee (f := 51) rfl ?_); refine gL (some 8) Try.func51 #[.int .i64 a0] ?_; (with_reducible refine (cmp_isNaN_int.calls a0 true _ A3.out).mono ?_); rintro e w' ⟨rfl, ⟨nd, rfl⟩⟩; refine ⟨_, rfl, ?_⟩) | ((with_reducible refine gate_callee (f := 51) rfl ?_); refine gL (some 10) Try.func51 #[.int .i64 a1] ?_; (with_reducible refine (cmp_isNaN_int.calls a1 false _ A4.out).mono ?_); rintro e w' ⟨rfl, ⟨nd, rfl⟩⟩; refine ⟨_, rfl, ?_⟩))
   all_goals (go_ret; exact ⟨eF, by repeat (first | exact Drawn0.refl _ | apply Drawn0.step)⟩)
 ·replace c5 := Bool.eq_false_iff.mpr c5
  subst c5
  have H1 : (if t250 = true then (some 1) else (if a0 < a1 then (some (-1)) else (if a0 > a1 then (some 1) else (some 0)))) = some r := by rw [if_neg (show ¬ (false = true) by decide)] at H; exact H
  clear H; have H := H1; clear H1
  by_cases c7 : t250 = true
  ·subst c7
   have H1 : (some 1) = some r := by rw [if_pos rfl] at H; exact H
   clear H; have H := H1; clear H1; obtain rfl := Option.some.inj H; go_enter Try.func35, Try.ntmps35
   go_wp2_with (first | ((with_reducible refine gate_callee (f := 51) rfl ?_); refine gL (some 8) Try.func51 #[.int .i64 a0] ?_; (with_reducible refine (cmp_isNaN_int.calls a0 false _ A3.out).mono ?_); rintro e w' ⟨rfl, ⟨nd, rfl⟩⟩; refine ⟨_, rfl, ?_⟩) | ((with_reducible refine gate_callee (f := 51) rfl ?_); refine gL (some 10) Try.func51 #[.int .i64 a1] ?_; (with_reducible refine (cmp_isNaN_int.calls a1 true _ A4.out).mono ?_); rintro e w' ⟨rfl, ⟨nd, rfl⟩⟩; refine ⟨_, rfl, ?_⟩))
   all_goals (go_ret; exact ⟨eF, by repeat (first | exact Drawn0.refl _ | apply Drawn0.step)⟩)
  ·replace c7 := Bool.eq_false_iff.mpr c7
   subst c7
   have H1 : (if a0 < a1 then (some (-1)) else (if a0 > a1 then (some 1) else (some 0))) = some r := by rw [if_neg (show ¬ (false = true) by decide)] at H; exact H
   clear H; have H := H1; clear H1
   by_cases c8 : a0 < a1
   ·rw [if_pos c8] at H
    have c8b0 : decide (a0 < a1) = true := decide_eq_true c8; clear c8; obtain rfl := Option.some.inj H; go_enter Try.func35, Try.ntmps35
    go_wp2_with (first | ((with_reducible refine gate_callee (f := 51) rfl ?_); refine gL (some 8) Try.func51 #[.int .i64 a0] ?_; (with_reducible refine (cmp_isNaN_int.calls a0 false _ A3.out).mono ?_); rintro e w' ⟨rfl, ⟨nd, rfl⟩⟩; refine ⟨_, rfl, ?_⟩) | ((with_reducible refine gate_callee (f := 51) rfl ?_); refine gL (some 10) Try.func51 #[.int .i64 a1] ?_; (with_reducible refine (cmp_isNaN_int.calls a1 false _ A4.out).mono ?_); rintro e w' ⟨rfl, ⟨nd, rfl⟩⟩; refine ⟨_, rfl, ?_⟩))
    all_goals (go_ret; exact ⟨eF, by repeat (first | exact Drawn0.refl _ | apply Drawn0.step)⟩)
   ·rw [if_neg c8] at H
    have c8b0 : decide (a0 < a1) = false := decide_eq_false c8; clear c8
    by_cases c9 : a0 > a1
    ·rw [if_pos c9] at H
     have c9b0 : decide (a1 < a0) = true := decide_eq_true c9; clear c9; obtain rfl := Option.some.inj H; go_enter Try.func35, Try.ntmps35
     go_wp2_with (first | ((with_reducible refine gate_callee (f := 51) rfl ?_); refine gL (some 8) Try.func51 #[.int .i64 a0] ?_; (with_reducible refine (cmp_isNaN_int.calls a0 false _ A3.out).mono ?_); rintro e w' ⟨rfl, ⟨nd, rfl⟩⟩; refine ⟨_, rfl, ?_⟩) | ((with_reducible refine gate_callee (f := 51) rfl ?_); refine gL (some 10) Try.func51 #[.int .i64 a1] ?_; (with_reducible refine (cmp_isNaN_int.calls a1 false _ A4.out).mono ?_); rintro e w' ⟨rfl, ⟨nd, rfl⟩⟩; refine ⟨_, rfl, ?_⟩))
     all_goals (go_ret; exact ⟨eF, by repeat (first | exact Drawn0.refl _ | apply Drawn0.step)⟩)
    ·rw [if_neg c9] at H
     have c9b0 : decide (a1 < a0) = false := decide_eq_false c9; clear c9; obtain rfl := Option.some.inj H; go_enter Try.func35, Try.ntmps35
     go_wp2_with (first | ((with_reducible refine gate_callee (f := 51) rfl ?_); refine gL (some 8) Try.func51 #[.int .i64 a0] ?_; (with_reducible refine (cmp_isNaN_int.calls a0 false _ A3.out).mono ?_); rintro e w' ⟨rfl, ⟨nd, rfl⟩⟩; refine ⟨_, rfl, ?_⟩) | ((with_reducible refine gate_callee (f := 51) rfl ?_); refine gL (some 10) Try.func51 #[.int .i64 a1] ?_; (with_reducible refine (cmp_isNaN_int.calls a1 false _ A4.out).mono ?_); rintro e w' ⟨rfl, ⟨nd, rfl⟩⟩; refine ⟨_, rfl, ?_⟩))
     all_goals (go_ret; exact ⟨eF, by repeat (first | exact Drawn0.refl _ | apply Drawn0.step)⟩)

/-! ### frac_rank: function 36 -/
def frac_rank.f (a0 : Bool) : Option (Int) := if a0 = true then (some 1) else (some 0)
set_option maxHeartbeats 8000000 in
set_option maxRecDepth 100000 in
theorem frac_rank.calls (a0 : Bool) (r : Int) (w : World) (h : frac_rank.f a0 = some r) :
  Calls Try.prog 36 #[.bool a0] w fun e w' => e = .returned (.int .i64 r) ∧ Drawn0 w w' := by
 have H : (if a0 = true then (some 1) else (some 0)) = some r := h
 clear h
 by_cases c2 : a0 = true
 ·subst c2
  have H1 : (some 1) = some r := by rw [if_pos rfl] at H; exact H
  clear H; have H := H1; clear H1; obtain rfl := Option.some.inj H; go_enter Try.func36, Try.ntmps36; go_wp2
  all_goals (go_ret; exact ⟨eF, by repeat (first | exact Drawn0.refl _ | apply Drawn0.step)⟩)
 ·replace c2 := Bool.eq_false_iff.mpr c2
  subst c2
  have H1 : (some 0) = some r := by rw [if_neg (show ¬ (false = true) by decide)] at H; exact H
  clear H; have H := H1; clear H1; obtain rfl := Option.some.inj H; go_enter Try.func36, Try.ntmps36; go_wp2
  all_goals (go_ret; exact ⟨eF, by repeat (first | exact Drawn0.refl _ | apply Drawn0.step)⟩)

/-! ### prod_CmpLong: function 37 -/
theorem partA87 (xs : Array Value) (i : Nat) (v : Value) (w : World) (h : xs[i]? = some v) : (part 28 xs i).run Try.prog w = .ok v w := by
 have hs : ∀ w, (sizeOf 28).run Try.prog w = .ok 1 w := fun _ => by kernel_rfl
 unfold part
 simp [hs, h]
set_option maxRecDepth 100000 in
theorem eqArr87 (d : Nat) (w : World) (x0 x1 x2 y0 y1 y2 : Int) :
  (Op.equalIn (d + 2) 87 (.agg #[.int .u64 x0, .int .u64 x1, .int .u64 x2]) (.agg #[.int .u64 y0, .int .u64 y1, .int .u64 y2])).run Try.prog w = .ok (x0 == y0 && (x1 == y1 && x2 == y2)) w := by
 have hu49 := Try.underlying87
 have hu26 := Try.underlying28
 have hs : ∀ w, (sizeOf 28).run Try.prog w = .ok 1 w := fun _ => by kernel_rfl
 rw [Op.equalIn]
 simp [run_underlying hu49, hs, List.range', partA87, run_equalIn_int w d 28 .u64 .u64 _ _ hu26]
 by_cases h0 : x0 = y0
 ·by_cases h1 : x1 = y1
  ·by_cases h2 : x2 = y2 <;> simp [h0, h1, h2]
  ·simp [h0, h1]
 ·simp [h0]
attribute [local go_sem high] eqArr87
def prod_CmpLong.f (a0 a1 a2 b0 b1 b2 : Int) : Option Int := if a0 = b0 then (if a1 = b1 then (if a2 = b2 then some 0 else cmp_Compare_uint64.f a2 b2) else cmp_Compare_uint64.f a1 b1) else cmp_Compare_uint64.f a0 b0
set_option maxHeartbeats 8000000 in
set_option maxRecDepth 100000 in
theorem prod_CmpLong.calls (a0 a1 a2 b0 b1 b2 : Int) (r : Int) (w : World) (h : prod_CmpLong.f a0 a1 a2 b0 b1 b2 = some r) :
  Calls Try.prog 37 #[.agg #[.int .u64 a0, .int .u64 a1, .int .u64 a2], .agg #[.int .u64 b0, .int .u64 b1, .int .u64 b2]] w fun e w' => e = .returned (.int .i64 r) ∧ Below w.heap.size w w' := by
 have hu49 := Try.underlying87
 have hu26 := Try.underlying28
 have HB := aaM (Below.refl w.heap.size w)
 have HF := aaM h
 clear h
 by_cases hall : (a0 == b0 && (a1 == b1 && a2 == b2)) = true
 ·have e0 : a0 = b0 ∧ a1 = b1 ∧ a2 = b2 := by simpa using hall
  obtain ⟨rfl, rfl, rfl⟩ := e0
  have hr : r = 0 := by
   have := HF.out; unfold prod_CmpLong.f at this; rw [if_pos rfl, if_pos rfl, if_pos rfl] at this; exact (Option.some.inj this).symm
  subst hr; clear hall HF; go_enter Try.func37, Try.ntmps37
  go_wp2_with (first | ((with_reducible refine gate_dst (N := 2) rfl ?_); refine bxF w HB 2 #[.int .u64 a0, .int .u64 a1, .int .u64 a2] 87 ?_; intro gb122 hg w3 hb BK122 HB GE122; have GW122 := GE122; clear hb hg) | ((with_reducible refine gate_dst (N := 3) rfl ?_); refine bxE 3 #[.int .u64 a0, .int .u64 a1, .int .u64 a2] 87 ?_; intro gb123 hg w4 hbox hb; replace BK122 := bY hb BK122; replace HB := aaM (lP (lB HB) hb); have BK123 := aaM (hbox); clear hb hbox hg; obtain ⟨hcz6_0, hcz6_1, hcz6_2, -, -, -⟩ := bE3 BK122.out; obtain ⟨hcz7_0, hcz7_1, hcz7_2, -, -, -⟩ := bE3 BK123.out))
  go_ret
  exact ⟨rfl, HB.out⟩
 ·have HN : Aside0 (¬ (a0 = b0 ∧ a1 = b1 ∧ a2 = b2)) := ⟨by simpa using hall⟩
  have hall := Bool.eq_false_iff.2 hall; go_enter Try.func37, Try.ntmps37
  go_wp2_with (first | ((with_reducible refine gate_dst (N := 2) rfl ?_); refine bxF w HB 2 #[.int .u64 a0, .int .u64 a1, .int .u64 a2] 87 ?_; intro gb122 hg w3 hb BK122 HB GE122; have GW122 := GE122; clear hb hg) | ((with_reducible refine gate_dst (N := 3) rfl ?_); refine bxE 3 #[.int .u64 b0, .int .u64 b1, .int .u64 b2] 87 ?_; intro gb123 hg w4 hbox hb; replace BK122 := bY hb BK122; replace HB := aaM (lP (lB HB) hb); have BK123 := aaM (hbox); clear hb hbox hg; obtain ⟨hcz6_0, hcz6_1, hcz6_2, -, -, -⟩ := bE3 BK122.out; obtain ⟨hcz7_0, hcz7_1, hcz7_2, -, -, -⟩ := bE3 BK123.out))
  go_loopw [9] (fun v9 wr => ∃ k : Nat, v9 = .int .i64 (k : Int) ∧ Aside0 (k ≤ 3 ∧ (0 < k → a0 = b0) ∧ (1 < k → a1 = b1) ∧ (2 < k → a2 = b2)) ∧ Drawn0 w4 wr) (fun v9 _ => 3 - (intOf v9).toNat)
  case atStart => exact ⟨0, rfl, ⟨by omega, by omega, by omega, by omega⟩, Drawn0.refl _⟩
  case round =>
   obtain ⟨k, rfl, HK, ⟨m1, rfl⟩⟩ := hrel; clear hall
   have hk : k = 0 ∨ k = 1 ∨ k = 2 ∨ k = 3 := by have := HK.out.1; omega
   rcases hk with rfl | rfl | rfl | rfl
   ·by_cases hd : a0 = b0
    ·have hdb : (a0 != b0) = false := by rw [hd]; simp
     have HD := aaM hd; clear hd; go_wp2
     repeat (go_quiet (fail); try go_wp2)
     go_roundw
     case rel => exact ⟨1, rfl, ⟨by omega, fun _ => HD.out, fun _ => by omega, fun _ => by omega⟩, by repeat (first | exact Drawn0.refl _ | apply Drawn0.step)⟩
     case measure => simp [intOf]
    ·have hdb : (a0 != b0) = true := bne_iff_ne.2 hd
     have HC : Aside0 (cmp_Compare_uint64.f a0 b0 = some r) := ⟨by
      have := HF.out; unfold prod_CmpLong.f at this; rwa [if_neg hd] at this⟩
     clear hd; go_wp2; go_quiet (fail); go_wp2
     have HW : Drawn0 w4 ((w4.drewN m1).drewN nq) := by repeat (first | exact Drawn0.refl _ | apply Drawn0.step)
     have hcA : ((w4.drewN m1).drewN nq).cell? ⟨gb122, 0, none⟩ = some (.int .u64 a0) := by rw [World.cell?_drewN, World.cell?_drewN]; exact hcz6_0
     have hcB : ((w4.drewN m1).drewN nq).cell? ⟨gb123, 0, none⟩ = some (.int .u64 b0) := by rw [World.cell?_drewN, World.cell?_drewN]; exact hcz7_0
     generalize (w4.drewN m1).drewN nq = W5 at *; go_quiet ((go_at_call 52; exact Calls.quiet_of ((cmp_Compare_uint64.calls _ _ r _ HC.out).mono fun e w' ⟨he, hd⟩ => ⟨he, hd.out⟩))); go_wp2; obtain ⟨m5, rfl⟩ := HW.out; go_ret
     exact ⟨rfl, by repeat (first | exact HB.out | apply lN | apply lD)⟩
   ·by_cases hd : a1 = b1
    ·have hdb : (a1 != b1) = false := by rw [hd]; simp
     have HD := aaM hd; clear hd; go_wp2
     repeat (go_quiet (fail); try go_wp2)
     go_roundw
     case rel => exact ⟨2, rfl, ⟨by omega, fun _ => HK.out.2.1 (by omega), fun _ => HD.out, fun _ => by omega⟩, by repeat (first | exact Drawn0.refl _ | apply Drawn0.step)⟩
     case measure => simp [intOf]
    ·have hdb : (a1 != b1) = true := bne_iff_ne.2 hd
     have HC : Aside0 (cmp_Compare_uint64.f a1 b1 = some r) := ⟨by
      have := HF.out; unfold prod_CmpLong.f at this; rwa [if_pos (HK.out.2.1 (by omega)), if_neg hd] at this⟩
     clear hd; go_wp2; go_quiet (fail); go_wp2
     have HW : Drawn0 w4 ((w4.drewN m1).drewN nq) := by repeat (first | exact Drawn0.refl _ | apply Drawn0.step)
     have hcA : ((w4.drewN m1).drewN nq).cell? ⟨gb122, 1, none⟩ = some (.int .u64 a1) := by rw [World.cell?_drewN, World.cell?_drewN]; exact hcz6_1
     have hcB : ((w4.drewN m1).drewN nq).cell? ⟨gb123, 1, none⟩ = some (.int .u64 b1) := by rw [World.cell?_drewN, World.cell?_drewN]; exact hcz7_1
     generalize (w4.drewN m1).drewN nq = W5 at *; go_quiet ((go_at_call 52; exact Calls.quiet_of ((cmp_Compare_uint64.calls _ _ r _ HC.out).mono fun e w' ⟨he, hd⟩ => ⟨he, hd.out⟩))); go_wp2; obtain ⟨m5, rfl⟩ := HW.out; go_ret
     exact ⟨rfl, by repeat (first | exact HB.out | apply lN | apply lD)⟩
   ·by_cases hd : a2 = b2
    ·have hdb : (a2 != b2) = false := by rw [hd]; simp
     have HD := aaM hd; clear hd; go_wp2
     repeat (go_quiet (fail); try go_wp2)
     go_roundw
     case rel => exact ⟨3, rfl, ⟨by omega, fun _ => HK.out.2.1 (by omega), fun _ => HK.out.2.2.1 (by omega), fun _ => HD.out⟩, by repeat (first | exact Drawn0.refl _ | apply Drawn0.step)⟩
     case measure => simp [intOf]
    ·have hdb : (a2 != b2) = true := bne_iff_ne.2 hd
     have HC : Aside0 (cmp_Compare_uint64.f a2 b2 = some r) := ⟨by
      have := HF.out; unfold prod_CmpLong.f at this; rwa [if_pos (HK.out.2.1 (by omega)), if_pos (HK.out.2.2.1 (by omega)), if_neg hd] at this⟩
     clear hd; go_wp2; go_quiet (fail); go_wp2
     have HW : Drawn0 w4 ((w4.drewN m1).drewN nq) := by repeat (first | exact Drawn0.refl _ | apply Drawn0.step)
     have hcA : ((w4.drewN m1).drewN nq).cell? ⟨gb122, 2, none⟩ = some (.int .u64 a2) := by rw [World.cell?_drewN, World.cell?_drewN]; exact hcz6_2
     have hcB : ((w4.drewN m1).drewN nq).cell? ⟨gb123, 2, none⟩ = some (.int .u64 b2) := by rw [World.cell?_drewN, World.cell?_drewN]; exact hcz7_2
     generalize (w4.drewN m1).drewN nq = W5 at *; go_quiet ((go_at_call 52; exact Calls.quiet_of ((cmp_Compare_uint64.calls _ _ r _ HC.out).mono fun e w' ⟨he, hd⟩ => ⟨he, hd.out⟩))); go_wp2; obtain ⟨m5, rfl⟩ := HW.out; go_ret
     exact ⟨rfl, by repeat (first | exact HB.out | apply lN | apply lD)⟩
   ·exact absurd ⟨HK.out.2.1 (by omega), HK.out.2.2.1 (by omega), HK.out.2.2.2 (by omega)⟩ HN.out


/-! ### frac_Cmp: function 21 -/
def frac_Cmp.j0 : Nat → Bool → Int → Int → Int → Int → Int → Int → Option (Int)
 | 0, _, _, _, _, _, _, _ => none
 | k + 1, x12, x252000, x252001, x252002, x253000, x253001, x253002 => if x12 = true then ((frac_Right.f x252000 x252001 x252002).bind fun t255 => ((frac_rank.f t255).bind fun t256 => ((frac_Right.f x253000 x253001 x253002).bind fun t257 => ((frac_rank.f t257).bind fun t258 => ((cmp_Compare_int.f t256 t258).bind fun t259 => (some t259)))))) else ((prod_Times.f x252000 x252001 x253002).bind fun bt260 => ((prod_Times.f x253000 x253001 x252002).bind fun bt263 => ((prod_CmpLong.f bt260.1 bt260.2.1 bt260.2.2 bt263.1 bt263.2.1 bt263.2.2).bind fun t266 => (some t266))))
def frac_Cmp.f (k : Nat) (a0_0 : Int) (a0_1 : Int) (a0_2 : Int) (a1_0 : Int) (a1_1 : Int) (a1_2 : Int) : Option (Int) := (frac_Right.f a0_0 a0_1 a0_2).bind fun t253 => (if t253 = true then ((frac_Right.f a1_0 a1_1 a1_2).bind fun t254 => (frac_Cmp.j0 k (!t254) a0_0 a0_1 a0_2 a1_0 a1_1 a1_2)) else (frac_Cmp.j0 k true a0_0 a0_1 a0_2 a1_0 a1_1 a1_2))
theorem frac_Cmp.mono_l : ∀ k, (∀ y0 y1 y2 y3 y4 y5 y6, LeO (frac_Cmp.j0 k y0 y1 y2 y3 y4 y5 y6) (frac_Cmp.j0 (k + 1) y0 y1 y2 y3 y4 y5 y6))
 | 0 => fun _ _ _ _ _ _ _ r h => by simp [frac_Cmp.j0] at h
 | k + 1 => by
  have ih0 := frac_Cmp.mono_l k
  ·intro y0 y1 y2 y3 y4 y5 y6
   unfold frac_Cmp.j0
   repeat' first
   | (with_reducible exact ih0 _ _ _ _ _ _ _)
   | (with_reducible exact LeO.refl _)
   | (with_reducible exact LeO.none _)
   | (with_reducible refine LeO.ite ?_ ?_)
   | (with_reducible refine LeO.bind ?_ (fun _ => ?_))
   | exact ih0 _ _ _ _ _ _ _
   | exact LeO.none _
   | refine LeO.ite ?_ ?_
   | refine LeO.bind ?_ (fun _ => ?_)
theorem frac_Cmp.mono : ∀ a0 a1 a2 a3 a4 a5 k, LeO (frac_Cmp.f k a0 a1 a2 a3 a4 a5) (frac_Cmp.f (k + 1) a0 a1 a2 a3 a4 a5) := by
 intro a0 a1 a2 a3 a4 a5 k
 have ih0 := frac_Cmp.mono_l k
 unfold frac_Cmp.f
 repeat' first
   | (with_reducible exact ih0 _ _ _ _ _ _ _)
   | (with_reducible exact LeO.refl _)
   | (with_reducible exact LeO.none _)
   | (with_reducible refine LeO.ite ?_ ?_)
   | (with_reducible refine LeO.bind ?_ (fun _ => ?_))
   | exact ih0 _ _ _ _ _ _ _
   | exact LeO.none _
   | refine LeO.ite ?_ ?_
   | refine LeO.bind ?_ (fun _ => ?_)
def frac_Cmp.T2 : Bool × List (List Nat × List Nat) := (true, [([], []), ([0], [0]), ([1, 1], [1]), ([], []), ([3, 2], [3]), ([4, 4], [4]), ([2, 5, 5], [2, 5]), ([6, 6, 0, 1, 2, 3, 4, 5, 6], [6])])
def frac_Cmp.B2 : List Nat := [0, 1, 3, 0, 15, 31, 63, 127]
theorem frac_Cmp.tab2 : rtab .any (opsOf Try.f21 2) = frac_Cmp.T2 := by kernel_rfl
theorem frac_Cmp.bits2 : waitsOk frac_Cmp.T2.2 frac_Cmp.B2 = true := by kernel_rfl
def frac_Cmp.T3 : Bool × List (List Nat × List Nat) := (true, [([], []), ([0], [0]), ([], []), ([2], [2]), ([1, 3], [1, 3]), ([], []), ([5], [5]), ([], []), ([7], [7]), ([6, 8, 4], [6, 8]), ([4, 9, 9], [4, 9]), ([10, 10, 0, 1, 2, 3, 4, 5, 6, 7, 8, 9, 10], [10])])
def frac_Cmp.B3 : List Nat := [0, 1, 0, 4, 15, 0, 32, 0, 128, 511, 1023, 2047]
theorem frac_Cmp.tab3 : rtab .any (opsOf Try.f21 3) = frac_Cmp.T3 := by kernel_rfl
theorem frac_Cmp.bits3 : waitsOk frac_Cmp.T3.2 frac_Cmp.B3 = true := by kernel_rfl
set_option maxHeartbeats 8000000 in
set_option maxRecDepth 100000 in
theorem frac_Cmp.calls (k : Nat) (a0_0 : Int) (a0_1 : Int) (a0_2 : Int) (a1_0 : Int) (a1_1 : Int) (a1_2 : Int) (r : Int) (w : World) (h : frac_Cmp.f k a0_0 a0_1 a0_2 a1_0 a1_1 a1_2 = some r) :
  Calls Try.prog 21 #[.agg #[.int .u64 a0_0, .int .u64 a0_1, .int .u64 a0_2], .agg #[.int .u64 a1_0, .int .u64 a1_1, .int .u64 a1_2]] w fun e w' => e = .returned (.int .i64 r) ∧ Below w.heap.size w w' := by
 have hu32 := Try.underlying32
 have hu30 := Try.underlying30
 have HB := aaM (Below.refl w.heap.size w)
 have H : ((frac_Right.f a0_0 a0_1 a0_2).bind fun t253 => (if t253 = true then ((frac_Right.f a1_0 a1_1 a1_2).bind fun t254 => (frac_Cmp.j0 k (!t254) a0_0 a0_1 a0_2 a1_0 a1_1 a1_2)) else (frac_Cmp.j0 k true a0_0 a0_1 a0_2 a1_0 a1_1 a1_2))) = some r := h
 clear h
 have HC3 := aaM H
 clear H
 go_enter Try.func21, Try.ntmps21
 go_upto_region 1 with (first | ((with_reducible refine gate_dst (N := 2) rfl ?_); refine bxF w HB 2 #[.int .u64 a0_0, .int .u64 a0_1, .int .u64 a0_2] 32 ?_; intro gb251 hg w4 hb BK251 HB GE251; have GW251 := GE251; clear hb hg) | ((with_reducible refine gate_dst (N := 3) rfl ?_); refine bxF w HB 3 #[.int .u64 a1_0, .int .u64 a1_1, .int .u64 a1_2] 32 ?_; intro gb252 hg w5 hb BK252 HB GE252; have GW252 := GE252; obtain ⟨NB251_252, NB252_251⟩ := nS hg BK251; replace BK251 := bY hb BK251; clear hb hg))
 (try simp only [Act.put, ssB, ssZ, ssS])
 go_cut [12] (fun v12 wc => ∃ (kq : Nat) (x12_2 : Bool), v12 = .bool x12_2 ∧ Aside0 (frac_Cmp.j0 kq x12_2 a0_0 a0_1 a0_2 a1_0 a1_1 a1_2 = some r) ∧ Aside0 (kq ≤ k) ∧ Aside0 (wc.heap[gb251]? = some (.cells #[.int .u64 a0_0, .int .u64 a0_1, .int .u64 a0_2] 32 (0, 0))) ∧ Aside0 (wc.heap[gb252]? = some (.cells #[.int .u64 a1_0, .int .u64 a1_1, .int .u64 a1_2] 32 (0, 0))) ∧ Aside0 (Below w.heap.size w wc))
 case first =>
  have H := HC3.out; clear HC3; replace H := ooB.mp H; obtain ⟨t253, A60, H⟩ := H; replace H : (if t253 = true then ((frac_Right.f a1_0 a1_1 a1_2).bind fun t254 => (frac_Cmp.j0 k (!t254) a0_0 a0_1 a0_2 a1_0 a1_1 a1_2)) else (frac_Cmp.j0 k true a0_0 a0_1 a0_2 a1_0 a1_1 a1_2)) = some r := H; have A6 := aaM A60; clear A60
  by_cases c7 : t253 = true
  ·subst c7
   have H1 : ((frac_Right.f a1_0 a1_1 a1_2).bind fun t254 => (frac_Cmp.j0 k (!t254) a0_0 a0_1 a0_2 a1_0 a1_1 a1_2)) = some r := by rw [if_pos rfl] at H; exact H
   clear H; have H := H1; clear H1; replace H := ooB.mp H; obtain ⟨t254, A80, H⟩ := H; replace H : (frac_Cmp.j0 k (!t254) a0_0 a0_1 a0_2 a1_0 a1_1 a1_2) = some r := H; have A8 := aaM A80; clear A80; have H' := aaM H; clear H; have := NB251_252.out; have := NB252_251.out; obtain ⟨hcz10_0, hcz10_1, hcz10_2, hfz10_0, hfz10_1, hfz10_2⟩ := bE3 BK251.out
   go_wp2_with (first | ((with_reducible refine gate_callee (f := 20) rfl ?_); refine gL (some 6) Try.func20 #[.agg #[.int .u64 a0_0, .int .u64 a0_1, .int .u64 a0_2]] ?_; (with_reducible refine (frac_Right.calls a0_0 a0_1 a0_2 true _ A6.out).mono ?_); rintro e w11 ⟨rfl, hb⟩; refine ⟨_, rfl, ?_⟩; replace BK251 := bY hb BK251; replace BK252 := bY hb BK252; replace HB := aaM (lP (lB HB) hb); (try clear hb); (try clear hb2); (try clear hk); (try clear hi); obtain ⟨hcz12_0, hcz12_1, hcz12_2, hfz12_0, hfz12_1, hfz12_2⟩ := bE3 BK252.out) | (go_at_call 20; (with_reducible refine (frac_Right.calls a1_0 a1_1 a1_2 t254 _ A8.out).mono ?_); rintro e w13 ⟨rfl, hb⟩; replace BK251 := bY hb BK251; replace BK252 := bY hb BK252; replace HB := aaM (lP (lB HB) hb); (try clear hb); (try clear hb2); (try clear hk); (try clear hi)))
   go_meet
   case rel => exact ⟨_, (!t254), (eF), H', ⟨by first | omega | exact Nat.le_refl _⟩, ⟨bZ BK251⟩, ⟨bZ BK252⟩, ⟨lB HB⟩⟩
  ·replace c7 := Bool.eq_false_iff.mpr c7
   subst c7
   have H1 : (frac_Cmp.j0 k true a0_0 a0_1 a0_2 a1_0 a1_1 a1_2) = some r := by rw [if_neg (show ¬ (false = true) by decide)] at H; exact H
   clear H; have H := H1; clear H1; have H' := aaM H; clear H; have := NB251_252.out; have := NB252_251.out; obtain ⟨hcz15_0, hcz15_1, hcz15_2, hfz15_0, hfz15_1, hfz15_2⟩ := bE3 BK251.out
   go_wp2_with (first | ((with_reducible refine gate_callee (f := 20) rfl ?_); refine gL (some 6) Try.func20 #[.agg #[.int .u64 a0_0, .int .u64 a0_1, .int .u64 a0_2]] ?_; (with_reducible refine (frac_Right.calls a0_0 a0_1 a0_2 false _ A6.out).mono ?_); rintro e w16 ⟨rfl, hb⟩; refine ⟨_, rfl, ?_⟩; replace BK251 := bY hb BK251; replace BK252 := bY hb BK252; replace HB := aaM (lP (lB HB) hb); (try clear hb); (try clear hb2); (try clear hk); (try clear hi)))
   go_meet
   case rel => exact ⟨_, (true), (eF), H', ⟨by first | omega | exact Nat.le_refl _⟩, ⟨bZ BK251⟩, ⟨bZ BK252⟩, ⟨lB HB⟩⟩
 case rest =>
  clear HC3; (try clear c1); (try clear c2); (try clear p2); (try clear c7); (try clear c9); (try clear c14); (try clear hcz10_0); (try clear hcz10_1); (try clear hcz10_2); (try clear hcz12_0); (try clear hcz12_1); (try clear hcz12_2); (try clear hcz15_0); (try clear hcz15_1); (try clear hcz15_2); (try clear hfz10_0); (try clear hfz10_1); (try clear hfz10_2); (try clear hfz12_0); (try clear hfz12_1); (try clear hfz12_2); (try clear hfz15_0); (try clear hfz15_1); (try clear hfz15_2); obtain ⟨kq, x12_2, rfl, HA, HJ2, BK251, BK252, HB⟩ := hcut
  cases kq with
  | zero => exact absurd HA.out (by simp [frac_Cmp.j0])
  | succ kj2 =>
   have H := HA.out; clear HA; simp only [frac_Cmp.j0] at H
   by_cases c17 : x12_2 = true
   ·subst c17
    have H1 : ((frac_Right.f a0_0 a0_1 a0_2).bind fun t255 => ((frac_rank.f t255).bind fun t256 => ((frac_Right.f a1_0 a1_1 a1_2).bind fun t257 => ((frac_rank.f t257).bind fun t258 => ((cmp_Compare_int.f t256 t258).bind fun t259 => (some t259)))))) = some r := by rw [if_pos rfl] at H; exact H
    clear H; have H := H1; clear H1; replace H := ooB.mp H; obtain ⟨t255, A180, H⟩ := H; replace H : ((frac_rank.f t255).bind fun t256 => ((frac_Right.f a1_0 a1_1 a1_2).bind fun t257 => ((frac_rank.f t257).bind fun t258 => ((cmp_Compare_int.f t256 t258).bind fun t259 => (some t259))))) = some r := H; have A18 := aaM A180; clear A180; replace H := ooB.mp H; obtain ⟨t256, A190, H⟩ := H; replace H : ((frac_Right.f a1_0 a1_1 a1_2).bind fun t257 => ((frac_rank.f t257).bind fun t258 => ((cmp_Compare_int.f t256 t258).bind fun t259 => (some t259)))) = some r := H; have A19 := aaM A190; clear A190; replace H := ooB.mp H; obtain ⟨t257, A200, H⟩ := H; replace H : ((frac_rank.f t257).bind fun t258 => ((cmp_Compare_int.f t256 t258).bind fun t259 => (some t259))) = some r := H; have A20 := aaM A200; clear A200; replace H := ooB.mp H; obtain ⟨t258, A210, H⟩ := H; replace H : ((cmp_Compare_int.f t256 t258).bind fun t259 => (some t259)) = some r := H; have A21 := aaM A210; clear A210; replace H := ooB.mp H; obtain ⟨t259, A220, H⟩ := H; replace H : (some t259) = some r := H; have A22 := aaM A220; clear A220; obtain rfl := Option.some.inj H; (try go_wp2); replace BK251 := aaM (bD BK251.out); replace BK252 := aaM (bD BK252.out); replace HB := aaM (lD HB.out); refine start_ (n := 8) (S := fun w' => w'.cell? ⟨gb251, 0, none⟩ = some (.int .u64 a0_0) ∧ w'.cell? ⟨gb251, 1, none⟩ = some (.int .u64 a0_1) ∧ w'.cell? ⟨gb251, 2, none⟩ = some (.int .u64 a0_2) ∧ w'.cell? ⟨gb252, 0, none⟩ = some (.int .u64 a1_0) ∧ w'.cell? ⟨gb252, 1, none⟩ = some (.int .u64 a1_1) ∧ w'.cell? ⟨gb252, 2, none⟩ = some (.int .u64 a1_2)) (ds := []) _ (by kernel_rfl) rfl rfl hD (fun hHeld => ?_); refine with_tabW frac_Cmp.tab2 frac_Cmp.bits2 (fun HT_ HW_ => ?_); generalize wc.drew = w23 at BK251 BK252 HB hHeld ⊢; refine tU 0 13 (qB 8 1) HT_ HW_ hHeld ?_
    refine tU 3 16 (qB 8 9) HT_ HW_ hHeld ?_
    refine oU 1 (some 14) (qB 8 11) HT_ (fun K hK => ?_); refine gU Try.func20 #[.agg #[.int .u64 a0_0, .int .u64 a0_1, .int .u64 a0_2]] ?_; (with_reducible refine (frac_Right.calls a0_0 a0_1 a0_2 t255 _ A18.out).mono ?_); rintro e w24 ⟨rfl, hb⟩; refine ⟨_, rfl, ?_⟩; replace BK251 := bY hb BK251; replace BK252 := bY hb BK252; replace HB := aaM (lP (lB HB) hb); (try clear hb); (try clear hb2); (try clear hk); (try clear hi); refine hK.out _ _ hD (fun hHeld => ?_); clear hK K; refine nU 14 ?_
    refine oU 2 (some 15) (qB 8 15) HT_ (fun K hK => ?_); refine gU Try.func36 #[.bool t255] ?_; (with_reducible refine (frac_rank.calls t255 t256 _ A19.out).mono ?_); rintro e w' ⟨rfl, ⟨nd, rfl⟩⟩; refine ⟨_, rfl, ?_⟩; refine hK.out _ _ hD (fun hHeld => ?_); clear hK K; refine nU 15 ?_
    refine oU 4 (some 17) (qB 8 31) HT_ (fun K hK => ?_); refine gU Try.func20 #[.agg #[.int .u64 a1_0, .int .u64 a1_1, .int .u64 a1_2]] ?_; (with_reducible refine (frac_Right.calls a1_0 a1_1 a1_2 t257 _ A20.out).mono ?_); rintro e w25 ⟨rfl, hb⟩; refine ⟨_, rfl, ?_⟩; replace BK251 := bY hb BK251; replace BK252 := bY hb BK252; replace HB := aaM (lP (lB HB) hb); (try clear hb); (try clear hb2); (try clear hk); (try clear hi); refine hK.out _ _ hD (fun hHeld => ?_); clear hK K; refine nU 17 ?_
    refine oU 5 (some 18) (qB 8 63) HT_ (fun K hK => ?_); refine gU Try.func36 #[.bool t257] ?_; (with_reducible refine (frac_rank.calls t257 t258 _ A21.out).mono ?_); rintro e w' ⟨rfl, ⟨nd, rfl⟩⟩; refine ⟨_, rfl, ?_⟩; refine hK.out _ _ hD (fun hHeld => ?_); clear hK K; refine nU 18 ?_
    refine oU 6 (some 19) (qB 8 127) HT_ (fun K hK => ?_); refine gU Try.func35 #[.int .i64 t256, .int .i64 t258] ?_; (with_reducible refine (cmp_Compare_int.calls t256 t258 t259 _ A22.out).mono ?_); rintro e w' ⟨rfl, ⟨nd, rfl⟩⟩; refine ⟨_, rfl, ?_⟩; refine hK.out _ _ hD (fun hHeld => ?_); clear hK K; refine nU 19 ?_
    refine pU 7 4 (qB 8 255) HT_ ?_
    refine done_ (done_of HT_.out (by kernel_rfl)) ?_; (try go_wp2)
    all_goals (go_ret; exact ⟨by first | rfl | (simp [errW_none, errW_some] <;> rfl) | (simp [*, errW_none, errW_some] <;> rfl) | (simp_all; done), lB HB⟩)
   ·replace c17 := Bool.eq_false_iff.mpr c17
    subst c17
    have H1 : ((prod_Times.f a0_0 a0_1 a1_2).bind fun bt260 => ((prod_Times.f a1_0 a1_1 a0_2).bind fun bt263 => ((prod_CmpLong.f bt260.1 bt260.2.1 bt260.2.2 bt263.1 bt263.2.1 bt263.2.2).bind fun t266 => (some t266)))) = some r := by rw [if_neg (show ¬ (false = true) by decide)] at H; exact H
    clear H; have H := H1; clear H1; replace H := ooB.mp H; obtain ⟨⟨t260, t261, t262⟩, A260, H⟩ := H; replace H : ((prod_Times.f a1_0 a1_1 a0_2).bind fun bt263 => ((prod_CmpLong.f t260 t261 t262 bt263.1 bt263.2.1 bt263.2.2).bind fun t266 => (some t266))) = some r := H; have A26 := aaM A260; clear A260; replace H := ooB.mp H; obtain ⟨⟨t263, t264, t265⟩, A270, H⟩ := H; replace H : ((prod_CmpLong.f t260 t261 t262 t263 t264 t265).bind fun t266 => (some t266)) = some r := H; have A27 := aaM A270; clear A270; replace H := ooB.mp H; obtain ⟨t266, A280, H⟩ := H; replace H : (some t266) = some r := H; have A28 := aaM A280; clear A280; obtain rfl := Option.some.inj H; (try go_wp2); replace BK251 := aaM (bD BK251.out); replace BK252 := aaM (bD BK252.out); replace HB := aaM (lD HB.out); refine start_ (n := 12) (S := fun w' => w'.cell? ⟨gb251, 0, none⟩ = some (.int .u64 a0_0) ∧ w'.cell? ⟨gb251, 1, none⟩ = some (.int .u64 a0_1) ∧ w'.cell? ⟨gb251, 2, none⟩ = some (.int .u64 a0_2) ∧ w'.cell? ⟨gb252, 0, none⟩ = some (.int .u64 a1_0) ∧ w'.cell? ⟨gb252, 1, none⟩ = some (.int .u64 a1_1) ∧ w'.cell? ⟨gb252, 2, none⟩ = some (.int .u64 a1_2)) (ds := []) _ (by kernel_rfl) rfl rfl hD (fun hHeld => ?_); refine with_tabW frac_Cmp.tab3 frac_Cmp.bits3 (fun HT_ HW_ => ?_); generalize wc.drew = w29 at BK251 BK252 HB hHeld ⊢; refine pU 0 20 (qB 12 1) HT_ ?_
    refine pU 2 22 (qB 12 5) HT_ ?_
    refine pU 5 25 (qB 12 37) HT_ ?_
    refine pU 7 27 (qB 12 165) HT_ ?_
    refine tU 1 21 (qB 12 167) HT_ HW_ hHeld ?_
    refine tU 3 23 (qB 12 175) HT_ HW_ hHeld ?_
    refine tU 6 26 (qB 12 239) HT_ HW_ hHeld ?_
    refine tU 8 28 (qB 12 495) HT_ HW_ hHeld ?_
    refine oU 4 (some 24) (qB 12 511) HT_ (fun K hK => ?_); refine gU Try.func38 #[.agg #[.int .u64 a0_0, .int .u64 a0_1], .int .u64 a1_2] ?_; (with_reducible refine (prod_Times.calls a0_0 a0_1 a1_2 t260 t261 t262 _ A26.out).mono ?_); rintro e w30 ⟨rfl, hb⟩; refine ⟨_, rfl, ?_⟩; replace BK251 := bY hb BK251; replace BK252 := bY hb BK252; replace HB := aaM (lP (lB HB) hb); (try clear hb); (try clear hb2); (try clear hk); (try clear hi); refine hK.out _ _ hD (fun hHeld => ?_); clear hK K; refine nU 24 ?_
    refine oU 9 (some 29) (qB 12 1023) HT_ (fun K hK => ?_); refine gU Try.func38 #[.agg #[.int .u64 a1_0, .int .u64 a1_1], .int .u64 a0_2] ?_; (with_reducible refine (prod_Times.calls a1_0 a1_1 a0_2 t263 t264 t265 _ A27.out).mono ?_); rintro e w31 ⟨rfl, hb⟩; refine ⟨_, rfl, ?_⟩; replace BK251 := bY hb BK251; replace BK252 := bY hb BK252; replace HB := aaM (lP (lB HB) hb); (try clear hb); (try clear hb2); (try clear hk); (try clear hi); refine hK.out _ _ hD (fun hHeld => ?_); clear hK K; refine nU 29 ?_
    refine oU 10 (some 30) (qB 12 2047) HT_ (fun K hK => ?_); refine gU Try.func37 #[.agg #[.int .u64 t260, .int .u64 t261, .int .u64 t262], .agg #[.int .u64 t263, .int .u64 t264, .int .u64 t265]] ?_; (with_reducible refine (prod_CmpLong.calls t260 t261 t262 t263 t264 t265 t266 _ A28.out).mono ?_); rintro e w32 ⟨rfl, hb⟩; refine ⟨_, rfl, ?_⟩; replace BK251 := bY hb BK251; replace BK252 := bY hb BK252; replace HB := aaM (lP (lB HB) hb); (try clear hb); (try clear hb2); (try clear hk); (try clear hi); refine hK.out _ _ hD (fun hHeld => ?_); clear hK K; refine nU 30 ?_
    refine pU 11 4 (qB 12 4095) HT_ ?_
    refine done_ (done_of HT_.out (by kernel_rfl)) ?_; (try go_wp2)
    all_goals (go_ret; exact ⟨by first | rfl | (simp [errW_none, errW_some] <;> rfl) | (simp [*, errW_none, errW_some] <;> rfl) | (simp_all; done), lB HB⟩)

/-! ### a part of split_Cut -/
section
variable {P : Program} {ops : Array Oper} {Q : Exit → Act → World → Prop}
theorem callMethod_ {T : TypeId} {v : Value} {name : String} {f : FuncId} {fn : Func} (hf : P.funcs[f]? = some fn) (hname : (fn.name == "runtime.NumGoroutine") = false) (hb : fn.body.isSome = true) (args all : Array Value) (hall : #[v] ++ args = all) {w : World}
  (hm : (method (P.types.size + Made.depth) T v name).run P w = .ok (f, v) w) : (callMethod (.iface T v) name args).run P w = .ok (.enter f all) w := by
 subst hall
 simp only [callMethod, Sem.run_bind, run_program, Result.andThen_ok, hm]
 exact enters_ hf hname hb (#[v] ++ args) w
/-- A call through an interface. -/
theorem goesIL_ {T : TypeId} {rest : List Oper} {oi : Oper} {a : Act} {w : World} (N : Option Tmp) (hd : oi.dst = N) (hg : oi.guard = none) {v : Value} {f : FuncId} {fn : Func} {x : Operand} {name : String} {as_ : Array Operand} {ts : Array TypeId} (hf : P.funcs[f]? = some fn) (hname : (fn.name == "runtime.NumGoroutine") = false) (hb : fn.body.isSome = true) (args all : Array Value) (hall : #[v] ++ args = all)
  (hm : (method (P.types.size + Made.depth) T v name).run P w = .ok (f, v) w)
  (hop : oi.op = .call { callee := .invoke x name, args := as_, argTypes := ts }) (hx : a.eval x = .iface T v) (hargs : as_.map a.eval = args)
  (h : Calls P f all w fun e w' => ∃ v, e = .returned v ∧ wpList P ops Q rest (a.put N v) w') : wpList P ops Q (oi :: rest) a w := by
 refine wpList_plain hg fun K hK => ?_
 have he := callMethod_ hf hname hb args all hall hm
 have hrun : (execOp a.eval oi).run P w = .ok (.enter f all) w := by
  have h0 : (#[Value.iface T v] ++ args)[0]? = some (Value.iface T v) := by rw [Array.getElem?_append_left (by simp)]; rfl
  unfold execOp
  simp [hop, resolve, hx, invoke, hargs, h0, he]
 unfold Oper.wp
 rw [hrun, Oper.upon_enter]
 refine h.mono fun e w'' hh => ?_
 obtain ⟨v, rfl, hk⟩ := hh
 subst hd
 exact hK _ _ hk
theorem goesI_ {T : TypeId} {oi : Oper} {N : Option Tmp} {a : Act} {w : World} {K : Act → World → Prop} {v : Value} {f : FuncId} {fn : Func} {x : Operand} {name : String} {as_ : Array Operand} {ts : Array TypeId} (hf : P.funcs[f]? = some fn) (hname : (fn.name == "runtime.NumGoroutine") = false) (hb : fn.body.isSome = true) (args all : Array Value) (hall : #[v] ++ args = all)
  (hm : (method (P.types.size + Made.depth) T v name).run P w = .ok (f, v) w)
  (hw : Region.wanted oi (yielded ops a.tmps) = true) (hN : oi.dst = N) (hop : oi.op = .call { callee := .invoke x name, args := as_, argTypes := ts }) (hx : a.eval x = .iface T v) (hargs : as_.map a.eval = args)
  (h : Calls P f all w fun e w' => ∃ v, e = .returned v ∧ K (a.put N v) w') : if Region.wanted oi (yielded ops a.tmps) = true then Oper.wp P oi a w K Q else K (a.put N undef) w := by
 have he := callMethod_ hf hname hb args all hall hm
 refine call_ f all hw hN ?_ h
 have h0 : (#[Value.iface T v] ++ args)[0]? = some (Value.iface T v) := by rw [Array.getElem?_append_left (by simp)]; rfl
 unfold execOp
 simp [hop, resolve, hx, invoke, hargs, h0, he]
end


/-! ### a part of split_Cut -/
/-- A row of one's own lies in another block than one of another type. -/
theorem split_binsC.row_far {α : Type} {d : Kd α} {e t g base : Nat} {ok : Nat → Prop} {w : World} {v : Value} {xs : List α} {cells : Array Value} (h : d.R e w base ok v xs) (hb : w.heap[g]? = some (.cells cells t (0, 0))) (ht : ∀ q, q ∈ e :: d.E → q ≠ t) (w' : World) (hm : ∀ k, k ≠ g → w'.heap[k]? = w.heap[k]?) : d.R e w' base ok v xs :=
 Kd.R_mono (Kd.R_move (Kd.R_types h hb ht) (fun k hk => hm k hk.2)) (fun k hk => hk.1)
def split_binsC.f (k : Nat) (a0_0 : Int) (a0_1 : Int) (a0_2 : Int) (l0_3 : List Int) (l0_4 : List (S54)) (a1 : Int) (a2 : Int) : Option (List Int × Bool) := (hist_Sum.f k a0_0 a0_1 a0_2 l0_3 l0_4 a1 a2).bind fun z => some (z.1, z.2.2.2.2 == 0)
theorem split_binsC.mono : ∀ a0 a1 a2 a3 a4 a5 a6 k, LeO (split_binsC.f k a0 a1 a2 a3 a4 a5 a6) (split_binsC.f (k + 1) a0 a1 a2 a3 a4 a5 a6) := by
 intro a0 a1 a2 a3 a4 a5 a6 k
 unfold split_binsC.f
 exact LeO.bind (hist_Sum.mono _ _ _ _ _ _ _ _) (fun _ => LeO.refl _)
set_option maxHeartbeats 8000000 in
set_option maxRecDepth 100000 in
theorem split_binsC.calls (k : Nat) (a0_0 : Int) (a0_1 : Int) (a0_2 : Int) (A0_3 : Option Addr) (c0_3 : Nat) (l0_3 : List Int) (A0_4 : Option Addr) (c0_4 : Nat) (l0_4 : List (S54)) (a1 : Int) (a2 : Int) (r1 : List Int) (rb : Bool) (w : World) (hr0_3 : Kd.C (Kd.int .i64) w A0_3 l0_3.length l0_3) (hc0_3 : l0_3.length ≤ c0_3) (hr0_4 : Kd.C k54 w A0_4 l0_4.length l0_4) (hc0_4 : l0_4.length ≤ c0_4) (hk_ : a0_0 = 0) (h : split_binsC.f k a0_0 a0_1 a0_2 l0_3 l0_4 a1 a2 = some (r1, rb)) :
  Calls Try.prog 19 #[.agg #[.int .i64 a0_0, .int .i64 a0_1, .int .i64 a0_2, (.slice A0_3 l0_3.length c0_3), (.slice A0_4 l0_4.length c0_4)], .int .i64 a1, .int .i64 a2] w fun e w' => ∃ v0_ : Value, e = .returned (.tuple #[.iface 81 (.agg #[v0_]), .bool rb]) ∧ Kd.R (Kd.int .i64) 2 w' w.heap.size (fun _ => True) v0_ r1 ∧ Below w.heap.size w w' := by
 have hu25 := Try.underlying25
 have hu54 := Try.underlying54
 have HR3 := aaM hr0_3
 have HC3 := aaM hc0_3
 have HR4 := aaM hr0_4
 have HC4 := aaM hc0_4
 have HB := aaM (Below.refl w.heap.size w)
 clear hr0_3 hc0_3 hr0_4 hc0_4
 have hk0_ : (a0_0 == 0) = true := beq_iff_eq.mpr hk_
 clear hk_
 have H : ((hist_Sum.f k a0_0 a0_1 a0_2 l0_3 l0_4 a1 a2).bind fun z => some (z.1, z.2.2.2.2 == 0)) = some (r1, rb) := h
 clear h
 replace H := ooB.mp H
 obtain ⟨⟨cs, c_, s_, q_, e_⟩, AS_, H⟩ := H
 have AS := aaM AS_
 clear AS_
 simp only [Option.some.injEq, Prod.mk.injEq] at H
 obtain ⟨rfl, rfl⟩ := H
 go_enter Try.func19, Try.ntmps19
 go_wp2_with (first | ((with_reducible refine gate_dst (N := 3) rfl ?_); refine bxE 3 #[.int .i64 a0_0, .int .i64 a0_1, .int .i64 a0_2, (.slice A0_3 l0_3.length c0_3), (.slice A0_4 l0_4.length c0_4)] 25 ?_; intro gh hg w1 hbox hb; have ge_ := aaM (show w.heap.size ≤ gh by rw [hg]; exact lZ (lB HB)); have hb_ := aaM (lP (lB HB) hb); clear HB; have HB := hb_; clear hb_; have BKh := aaM hbox; have GEh := ge_; clear ge_ hg hbox hb; have hz2 : w1.cell? ⟨gh, 0, none⟩ = some (.int .i64 a0_0) := (bC BKh.out 0).trans rfl; have fhz2 := bF BKh.out 0; have hz3 : w1.cell? ⟨gh, 1, none⟩ = some (.int .i64 a0_1) := (bC BKh.out 1).trans rfl; have fhz3 := bF BKh.out 1; have hz4 : w1.cell? ⟨gh, 2, none⟩ = some (.int .i64 a0_2) := (bC BKh.out 2).trans rfl; have fhz4 := bF BKh.out 2; have hz5 : w1.cell? ⟨gh, 3, none⟩ = some ((.slice A0_3 l0_3.length c0_3)) := (bC BKh.out 3).trans rfl; have fhz5 := bF BKh.out 3; have hz6 : w1.cell? ⟨gh, 4, none⟩ = some ((.slice A0_4 l0_4.length c0_4)) := (bC BKh.out 4).trans rfl; have fhz6 := bF BKh.out 4) | ((with_reducible refine gate_callee (f := 34) rfl ?_); refine goesL_ (some 15) rfl rfl Try.func34 (by kernel_rfl) rfl #[.agg #[.int .i64 a0_0, .int .i64 a0_1, .int .i64 a0_2, (.slice A0_3 l0_3.length c0_3), (.slice A0_4 l0_4.length c0_4)], .int .i64 a1, .int .i64 a2] rfl (by (try simp only [mmT, mmC, mmN]); first | done | rfl) ?_; (with_reducible refine (hist_Sum.calls k _ _ _ _ _ l0_3 _ _ l0_4 _ _ cs c_ s_ q_ e_ _ ?s1 ?s2 ?s3 ?s4 AS.out).mono ?_); (case s1 => repeat (first | exact (ccB HR3.out HB.out) | (with_reducible refine ccA ?_ _) | (with_reducible refine ccN ?_ _) | (with_reducible refine ccD ?_))); (case s2 => exact HC3.out); (case s3 => repeat (first | exact (ccB HR4.out HB.out) | (with_reducible refine ccA ?_ _) | (with_reducible refine ccN ?_ _) | (with_reducible refine ccD ?_))); (case s4 => exact HC4.out); rintro e w7 ⟨v0, rfl, ho, hb⟩; refine ⟨_, rfl, ?_⟩; obtain ⟨Av, cv, ev_⟩ := Kd.R_slice ho; subst ev_; have mc_ := aaM (Kd.R_lower ho (lZ (lB HB))); have nh_ := aaM (bB (g := gh) (o := .cells #[.int .i64 a0_0, .int .i64 a0_1, .int .i64 a0_2, (.slice A0_3 l0_3.length c0_3), (.slice A0_4 l0_4.length c0_4)] 25 (0, 0)) (bZ BKh) hb); have hb_ := aaM (lP (lB HB) hb); clear BKh HB; have BKh := nh_; have HB := hb_; clear nh_ hb_; have HOc := mc_; clear mc_ ho hb; (try clear hz2 fhz2 hz3 fhz3 hz4 fhz4 hz5 fhz5 hz6 fhz6); have hz8 : w7.cell? ⟨gh, 0, none⟩ = some (.int .i64 a0_0) := (bC BKh.out 0).trans rfl; have fhz8 := bF BKh.out 0; have hz9 : w7.cell? ⟨gh, 1, none⟩ = some (.int .i64 a0_1) := (bC BKh.out 1).trans rfl; have fhz9 := bF BKh.out 1; have hz10 : w7.cell? ⟨gh, 2, none⟩ = some (.int .i64 a0_2) := (bC BKh.out 2).trans rfl; have fhz10 := bF BKh.out 2; have hz11 : w7.cell? ⟨gh, 3, none⟩ = some ((.slice A0_3 l0_3.length c0_3)) := (bC BKh.out 3).trans rfl; have fhz11 := bF BKh.out 3; have hz12 : w7.cell? ⟨gh, 4, none⟩ = some ((.slice A0_4 l0_4.length c0_4)) := (bC BKh.out 4).trans rfl; have fhz12 := bF BKh.out 4) | ((with_reducible refine gate_dst (N := 9) rfl ?_); refine bxE 9 #[.int .i64 0, .int .i64 0, .int .i64 0] 54 ?_; intro gm hg w13 hbox hb; have ge_ := aaM (show w.heap.size ≤ gm by rw [hg]; exact lZ (lB HB)); have NBh_m := aaM (show gh ≠ gm by rw [hg]; exact Nat.ne_of_lt (bL (g := gh) (bZ BKh))); have NBm_h := aaM (show gm ≠ gh by rw [hg]; exact Nat.ne_of_gt (bL (g := gh) (bZ BKh))); have nh_ := aaM (bB (g := gh) (o := .cells #[.int .i64 a0_0, .int .i64 a0_1, .int .i64 a0_2, (.slice A0_3 l0_3.length c0_3), (.slice A0_4 l0_4.length c0_4)] 25 (0, 0)) (bZ BKh) hb); have mc_ := aaM (rrB (rZ HOc) hb); have hb_ := aaM (lP (lB HB) hb); clear BKh HOc HB; have BKh := nh_; have HOc := mc_; have HB := hb_; clear nh_ mc_ hb_; have BKm := aaM hbox; have GEm := ge_; clear ge_ hg hbox hb; have nbh_m := NBh_m.out; have nbm_h := NBm_h.out; (try clear hz8 fhz8 hz9 fhz9 hz10 fhz10 hz11 fhz11 hz12 fhz12); have hz14 : w13.cell? ⟨gh, 0, none⟩ = some (.int .i64 a0_0) := (bC BKh.out 0).trans rfl; have fhz14 := bF BKh.out 0; have hz15 : w13.cell? ⟨gh, 1, none⟩ = some (.int .i64 a0_1) := (bC BKh.out 1).trans rfl; have fhz15 := bF BKh.out 1; have hz16 : w13.cell? ⟨gh, 2, none⟩ = some (.int .i64 a0_2) := (bC BKh.out 2).trans rfl; have fhz16 := bF BKh.out 2; have hz17 : w13.cell? ⟨gh, 3, none⟩ = some ((.slice A0_3 l0_3.length c0_3)) := (bC BKh.out 3).trans rfl; have fhz17 := bF BKh.out 3; have hz18 : w13.cell? ⟨gh, 4, none⟩ = some ((.slice A0_4 l0_4.length c0_4)) := (bC BKh.out 4).trans rfl; have fhz18 := bF BKh.out 4; have hz19 : w13.cell? ⟨gm, 0, none⟩ = some (.int .i64 0) := (bC BKm.out 0).trans rfl; have fhz19 := bF BKm.out 0; have hz20 : w13.cell? ⟨gm, 1, none⟩ = some (.int .i64 0) := (bC BKm.out 1).trans rfl; have fhz20 := bF BKm.out 1; have hz21 : w13.cell? ⟨gm, 2, none⟩ = some (.int .i64 0) := (bC BKm.out 2).trans rfl; have fhz21 := bF BKm.out 2) | ((with_reducible refine gate_store (t := 54) (p := 9) rfl ?_); refine store_event (t := 54) (p := 9) (v := ?vow22) (w1 := (((w13.setCell ⟨gm, 0, none⟩ (.int .i64 c_)).setCell ⟨gm, 1, none⟩ (.int .i64 s_)).setCell ⟨gm, 2, none⟩ (.int .i64 q_))) ?hg ?ho ?hN ?hr ?_; (case ho => rfl); (case hg => rfl); (case hN => rfl); (case hr => first | (go_simp; done) | (go_simp; rfl)); intro w22 hw_; have nh_ : Aside0 (w22.heap[gh]? = some (.cells #[.int .i64 a0_0, .int .i64 a0_1, .int .i64 a0_2, (.slice A0_3 l0_3.length c0_3), (.slice A0_4 l0_4.length c0_4)] 25 (0, 0))) := ⟨by rw [hw_]; refine blk_far ?_ NBh_m.out _; refine blk_far ?_ NBh_m.out _; refine blk_far ?_ NBh_m.out _; exact (bZ BKh)⟩; have nm_ : Aside0 (w22.heap[gm]? = some (.cells #[.int .i64 c_, .int .i64 s_, .int .i64 q_] 54 (0, 0))) := ⟨by rw [hw_]; refine blk_put (cs := #[.int .i64 c_, .int .i64 s_, .int .i64 0]) ?_ 2 _ rfl; refine blk_put (cs := #[.int .i64 c_, .int .i64 0, .int .i64 0]) ?_ 1 _ rfl; refine blk_put (cs := #[.int .i64 0, .int .i64 0, .int .i64 0]) ?_ 0 _ rfl; exact (bZ BKm)⟩; have mc_ : Aside0 (Kd.R (Kd.int .i64) 2 w22 w.heap.size (fun _ => True) (.slice Av cs.length cv) cs) := ⟨by rw [hw_]; exact row_far (w := w13) (rZ HOc) (bZ BKm) (by decide) _ (fun k_ hk_ => by refine (hhS _ _ _ k_ hk_).trans ?_; refine (hhS _ _ _ k_ hk_).trans ?_; refine (hhS _ _ _ k_ hk_).trans ?_; exact rfl)⟩; have hb_ : Aside0 (Below w.heap.size w w22) := ⟨by rw [hw_]; refine lS ?_ GEm.out; refine lS ?_ GEm.out; refine lS ?_ GEm.out; exact (lB HB)⟩; clear BKh BKm HOc HB; have BKh := nh_; have BKm := nm_; have HOc := mc_; have HB := hb_; clear nh_ nm_ mc_ hb_ hw_; (try clear hz14 fhz14 hz15 fhz15 hz16 fhz16 hz17 fhz17 hz18 fhz18 hz19 fhz19 hz20 fhz20 hz21 fhz21); have hz23 : w22.cell? ⟨gh, 0, none⟩ = some (.int .i64 a0_0) := (bC BKh.out 0).trans rfl; have fhz23 := bF BKh.out 0; have hz24 : w22.cell? ⟨gh, 1, none⟩ = some (.int .i64 a0_1) := (bC BKh.out 1).trans rfl; have fhz24 := bF BKh.out 1; have hz25 : w22.cell? ⟨gh, 2, none⟩ = some (.int .i64 a0_2) := (bC BKh.out 2).trans rfl; have fhz25 := bF BKh.out 2; have hz26 : w22.cell? ⟨gh, 3, none⟩ = some ((.slice A0_3 l0_3.length c0_3)) := (bC BKh.out 3).trans rfl; have fhz26 := bF BKh.out 3; have hz27 : w22.cell? ⟨gh, 4, none⟩ = some ((.slice A0_4 l0_4.length c0_4)) := (bC BKh.out 4).trans rfl; have fhz27 := bF BKh.out 4; have hz28 : w22.cell? ⟨gm, 0, none⟩ = some (.int .i64 c_) := (bC BKm.out 0).trans rfl; have fhz28 := bF BKm.out 0; have hz29 : w22.cell? ⟨gm, 1, none⟩ = some (.int .i64 s_) := (bC BKm.out 1).trans rfl; have fhz29 := bF BKm.out 1; have hz30 : w22.cell? ⟨gm, 2, none⟩ = some (.int .i64 q_) := (bC BKm.out 2).trans rfl; have fhz30 := bF BKm.out 2))
 refine bodyPost_ret (results_list (rs := [.tmp 6, .tmp 7]) rfl (by simp) (.tmp (.tmp .nil))) rfl ?_
 exact ⟨_, rfl, HOc.out, HB.out⟩


end Go.Proofs.Ytancajnbjmcamaa.QSplitTimes
