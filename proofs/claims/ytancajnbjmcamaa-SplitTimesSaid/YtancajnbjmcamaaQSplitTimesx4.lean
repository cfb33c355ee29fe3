-- Written by a program of this session (wip/tools/mkprint.py over the kit's print); Lean checks it.
import Derived.Test.YtancajnbjmcamaaQSplitTimesx0
import Derived.Test.YtancajnbjmcamaaQSplitTimesx2
import Derived.Test.YtancajnbjmcamaaQSplitTimesx3
namespace Go.Proofs.Ytancajnbjmcamaa.QSplitTimes
open Go.RowKit Go.Proofs.YtancajnbjmcamaaW.PrintWords Go.Proofs.YtancajnbjmcamaaW.PrintLast Go.Proofs.YtancajnbjmcamaaW.PrintMore
attribute [local go_sem] max2_int min2_int max_two min_two max_three min_three max_four min_four   -- for this text's walks alone
set_option linter.unusedVariables false
set_option linter.unusedSimpArgs false

attribute [local go_sem high] eqA54
/-! ### cmp_Compare_uint64: function 52 -/
def cmp_Compare_uint64.f (a0 : Int) (a1 : Int) : Option (Int) := (cmp_isNaN_uint64.f a0).bind fun t160 => ((cmp_isNaN_uint64.f a1).bind fun t161 => (if t160 = true then (if t161 = true then (some 0) else (some (-1))) else (if t161 = true then (some 1) else (if a0 < a1 then (some (-1)) else (if a0 > a1 then (some 1) else (some 0))))))
set_option maxHeartbeats 8000000 in
set_option maxRecDepth 100000 in
theorem cmp_Compare_uint64.calls (a0 : Int) (a1 : Int) (r : Int) (w : World) (h : cmp_Compare_uint64.f a0 a1 = some r) :
  Calls Try.prog 52 #[.int .u64 a0, .int .u64 a1] w fun e w' => e = .returned (.int .i64 r) ∧ Drawn0 w w' := by
 have H : ((cmp_isNaN_uint64.f a0).bind fun t160 => ((cmp_isNaN_uint64.f a1).bind fun t161 => (if t160 = true then (if t161 = true then (some 0) else (some (-1))) else (if t161 = true then (some 1) else (if a0 < a1 then (some (-1)) else (if a0 > a1 then (some 1) else (some 0))))))) = some r := h
 clear h
 replace H := ooB.mp H
 obtain ⟨t160, A30, H⟩ := H
 replace H : ((cmp_isNaN_uint64.f a1).bind fun t161 => (if t160 = true then (if t161 = true then (some 0) else (some (-1))) else (if t161 = true then (some 1) else (if a0 < a1 then (some (-1)) else (if a0 > a1 then (some 1) else (some 0)))))) = some r := H
 have A3 := aaM A30
 clear A30
 replace H := ooB.mp H
 obtain ⟨t161, A40, H⟩ := H
 replace H : (if t160 = true then (if t161 = true then (some 0) else (some (-1))) else (if t161 = true then (some 1) else (if a0 < a1 then (some (-1)) else (if a0 > a1 then (some 1) else (some 0))))) = some r := H
 have A4 := aaM A40
 clear A40
 by_cases c5 : t160 = true
 ·subst c5
  have H1 : (if t161 = true then (some 0) else (some (-1))) = some r := by rw [if_pos rfl] at H; exact H
  clear H; have H := H1; clear H1
  by_cases c6 : t161 = true
  ·subst c6
   have H1 : (some 0) = some r := by rw [if_pos rfl] at H; exact H
   clear H; have H := H1; clear H1; obtain rfl := Option.some.inj H; go_enter Try.func52, Try.ntmps52
   go_wp2_with (first | ((with_reducible refine gate_callee (f := 62) rfl ?_); refine gL (some 8) Try.func62 #[.int .u64 a0] ?_; (with_reducible refine (cmp_isNaN_uint64.calls a0 true _ A3.out).mono ?_); rintro e w' ⟨rfl, ⟨nd, rfl⟩⟩; refine ⟨_, rfl, ?_⟩) | ((with_reducible refine gate_callee (f := 62) rfl ?_); refine gL (some 10) Try.func62 #[.int .u64 a1] ?_; (with_reducible refine (cmp_isNaN_uint64.calls a1 true _ A4.out).mono ?_); rintro e w' ⟨rfl, ⟨nd, rfl⟩⟩; refine ⟨_, rfl, ?_⟩))
   all_goals (go_ret; exact ⟨eF, by repeat (first | exact Drawn0.refl _ | apply Drawn0.step)⟩)
  ·replace c6 := Bool.eq_false_iff.mpr c6
   subst c6
   have H1 : (some (-1)) = some r := by rw [if_neg (show ¬ (false = true) by decide)] at H; exact H
   clear H; have H := H1; clear H1; obtain rfl := Option.some.inj H; go_enter Try.func52, Try.ntmps52
   go_wp2_with (first | ((with_reducible refine gate_callee (f := 62) rfl ?_); refine gL (some 8) Try.func62 #[.int .u64 a0] ?_; (with_reducible refine (cmp_isNaN_uint64.calls a0 true _ A3.out).mono ?_); rintro e w' ⟨rfl, ⟨nd, rfl⟩⟩; refine ⟨_, rfl, ?_⟩) | ((with_reducible refine gate_callee (f := 62) rfl ?_); refine gL (some 10) Try.func62 #[.int .u64 a1] ?_; (with_reducible refine (cmp_isNaN_uint64.calls a1 false _ A4.out).mono ?_); rintro e w' ⟨rfl, ⟨nd, rfl⟩⟩; refine ⟨_, rfl, ?_⟩))
   all_goals (go_ret; exact ⟨eF, by repeat (first | exact Drawn0.refl _ | apply Drawn0.step)⟩)
 ·replace c5 := Bool.eq_false_iff.mpr c5
  subst c5
  have H1 : (if t161 = true then (some 1) else (if a0 < a1 then (some (-1)) else (if a0 > a1 then (some 1) else (some 0)))) = some r := by rw [if_neg (show ¬ (false = true) by decide)] at H; exact H
  clear H; have H := H1; clear H1
  by_cases c7 : t161 = true
  ·subst c7
   have H1 : (some 1) = some r := by rw [if_pos rfl] at H; exact H
   clear H; have H := H1; clear H1; obtain rfl := Option.some.inj H; go_enter Try.func52, Try.ntmps52
   go_wp2_with (first | ((with_reducible refine gate_callee (f := 62) rfl ?_); refine gL (some 8) Try.func62 #[.int .u64 a0] ?_; (with_reducible refine (cmp_isNaN_uint64.calls a0 false _ A3.out).mono ?_); rintro e w' ⟨rfl, ⟨nd, rfl⟩⟩; refine ⟨_, rfl, ?_⟩) | ((with_reducible refine gate_callee (f := 62) rfl ?_); refine gL (some 10) Try.func62 #[.int .u64 a1] ?_; (with_reducible refine (cmp_isNaN_uint64.calls a1 true _ A4.out).mono ?_); rintro e w' ⟨rfl, ⟨nd, rfl⟩⟩; refine ⟨_, rfl, ?_⟩))
   all_goals (go_ret; exact ⟨eF, by repeat (first | exact Drawn0.refl _ | apply Drawn0.step)⟩)
  ·replace c7 := Bool.eq_false_iff.mpr c7
   subst c7
   have H1 : (if a0 < a1 then (some (-1)) else (if a0 > a1 then (some 1) else (some 0))) = some r := by rw [if_neg (show ¬ (false = true) by decide)] at H; exact H
   clear H; have H := H1; clear H1
   by_cases c8 : a0 < a1
   ·rw [if_pos c8] at H
    have c8b0 : decide (a0 < a1) = true := decide_eq_true c8; clear c8; obtain rfl := Option.some.inj H; go_enter Try.func52, Try.ntmps52
    go_wp2_with (first | ((with_reducible refine gate_callee (f := 62) rfl ?_); refine gL (some 8) Try.func62 #[.int .u64 a0] ?_; (with_reducible refine (cmp_isNaN_uint64.calls a0 false _ A3.out).mono ?_); rintro e w' ⟨rfl, ⟨nd, rfl⟩⟩; refine ⟨_, rfl, ?_⟩) | ((with_reducible refine gate_callee (f := 62) rfl ?_); refine gL (some 10) Try.func62 #[.int .u64 a1] ?_; (with_reducible refine (cmp_isNaN_uint64.calls a1 false _ A4.out).mono ?_); rintro e w' ⟨rfl, ⟨nd, rfl⟩⟩; refine ⟨_, rfl, ?_⟩))
    all_goals (go_ret; exact ⟨eF, by repeat (first | exact Drawn0.refl _ | apply Drawn0.step)⟩)
   ·rw [if_neg c8] at H
    have c8b0 : decide (a0 < a1) = false := decide_eq_false c8; clear c8
    by_cases c9 : a0 > a1
    ·rw [if_pos c9] at H
     have c9b0 : decide (a1 < a0) = true := decide_eq_true c9; clear c9; obtain rfl := Option.some.inj H; go_enter Try.func52, Try.ntmps52
     go_wp2_with (first | ((with_reducible refine gate_callee (f := 62) rfl ?_); refine gL (some 8) Try.func62 #[.int .u64 a0] ?_; (with_reducible refine (cmp_isNaN_uint64.calls a0 false _ A3.out).mono ?_); rintro e w' ⟨rfl, ⟨nd, rfl⟩⟩; refine ⟨_, rfl, ?_⟩) | ((with_reducible refine gate_callee (f := 62) rfl ?_); refine gL (some 10) Try.func62 #[.int .u64 a1] ?_; (with_reducible refine (cmp_isNaN_uint64.calls a1 false _ A4.out).mono ?_); rintro e w' ⟨rfl, ⟨nd, rfl⟩⟩; refine ⟨_, rfl, ?_⟩))
     all_goals (go_ret; exact ⟨eF, by repeat (first | exact Drawn0.refl _ | apply Drawn0.step)⟩)
    ·rw [if_neg c9] at H
     have c9b0 : decide (a1 < a0) = false := decide_eq_false c9; clear c9; obtain rfl := Option.some.inj H; go_enter Try.func52, Try.ntmps52
     go_wp2_with (first | ((with_reducible refine gate_callee (f := 62) rfl ?_); refine gL (some 8) Try.func62 #[.int .u64 a0] ?_; (with_reducible refine (cmp_isNaN_uint64.calls a0 false _ A3.out).mono ?_); rintro e w' ⟨rfl, ⟨nd, rfl⟩⟩; refine ⟨_, rfl, ?_⟩) | ((with_reducible refine gate_callee (f := 62) rfl ?_); refine gL (some 10) Try.func62 #[.int .u64 a1] ?_; (with_reducible refine (cmp_isNaN_uint64.calls a1 false _ A4.out).mono ?_); rintro e w' ⟨rfl, ⟨nd, rfl⟩⟩; refine ⟨_, rfl, ?_⟩))
     all_goals (go_ret; exact ⟨eF, by repeat (first | exact Drawn0.refl _ | apply Drawn0.step)⟩)

/-! ### cmp_Or_int: function 104 -/
def cmp_Or_int.l0 : Nat → Int → List Int → Int → Int → Option (Int)
 | 0, _, _, _, _ => none
 | k + 1, x3, x6, x7, x8 => if x8 < x7 then (if 0 ≤ x8 then (if x8 < (x6.length : Int) then (if (rd x6 x8) = x3 then (cmp_Or_int.l0 k x3 x6 x7 (wrap64 (x8 + 1))) else (some (rd x6 x8))) else (none)) else (none)) else (some x3)
def cmp_Or_int.f (k : Nat) (l0 : List Int) : Option (Int) := cmp_Or_int.l0 k 0 l0 (l0.length : Int) 0
theorem cmp_Or_int.mono_l : ∀ k, (∀ y0 y1 y2 y3, LeO (cmp_Or_int.l0 k y0 y1 y2 y3) (cmp_Or_int.l0 (k + 1) y0 y1 y2 y3))
 | 0 => fun _ _ _ _ r h => by simp [cmp_Or_int.l0] at h
 | k + 1 => by
  have ih0 := cmp_Or_int.mono_l k
  ·intro y0 y1 y2 y3
   unfold cmp_Or_int.l0
   repeat' first
   | (with_reducible exact ih0 _ _ _ _)
   | (with_reducible exact LeO.refl _)
   | (with_reducible exact LeO.none _)
   | (with_reducible refine LeO.ite ?_ ?_)
   | (with_reducible refine LeO.bind ?_ (fun _ => ?_))
   | exact ih0 _ _ _ _
   | exact LeO.none _
   | refine LeO.ite ?_ ?_
   | refine LeO.bind ?_ (fun _ => ?_)
theorem cmp_Or_int.mono : ∀ a0 k, LeO (cmp_Or_int.f k a0) (cmp_Or_int.f (k + 1) a0) := by
 intro a0 k
 have ih0 := cmp_Or_int.mono_l k
 unfold cmp_Or_int.f
 repeat' first
   | (with_reducible exact ih0 _ _ _ _)
   | (with_reducible exact LeO.refl _)
   | (with_reducible exact LeO.none _)
   | (with_reducible refine LeO.ite ?_ ?_)
   | (with_reducible refine LeO.bind ?_ (fun _ => ?_))
   | exact ih0 _ _ _ _
   | exact LeO.none _
   | refine LeO.ite ?_ ?_
   | refine LeO.bind ?_ (fun _ => ?_)
set_option maxHeartbeats 8000000 in
set_option maxRecDepth 100000 in
theorem cmp_Or_int.calls (k : Nat) (A0 : Option Addr) (c0 : Nat) (l0 : List Int) (r : Int) (w : World) (hr0 : Kd.C (Kd.int .i64) w A0 l0.length l0) (hc0 : l0.length ≤ c0) (h : cmp_Or_int.f k l0 = some r) :
  Calls Try.prog 104 #[.slice A0 l0.length c0] w fun e w' => e = .returned (.int .i64 r) ∧ Drawn0 w w' := by
 have HR0 := aaM hr0
 have HC0 := aaM hc0
 clear hr0 hc0
 have H : (cmp_Or_int.l0 k 0 l0 (l0.length : Int) 0) = some r := h
 clear h
 have H' := aaM H
 clear H
 go_enter Try.func104, Try.ntmps104
 go_wp2
 go_loopg [8] k (fun kq v8 w' => ∃ (x8_1 : Int), v8 = .int .i64 x8_1 ∧ Aside0 (cmp_Or_int.l0 kq 0 l0 (l0.length : Int) x8_1 = some r) ∧ Aside0 (kq ≤ k) ∧ Drawn0 w w')
 case atStart => exact ⟨(0), (eF), H', ⟨Nat.le_refl _⟩, by repeat (first | exact Drawn0.refl _ | apply Drawn0.step)⟩
 case round =>
  clear H'; (try clear c1); obtain ⟨x8_1, rfl, HA, HK1, ⟨m1, rfl⟩⟩ := hrel
  cases gk with
  | zero => exact absurd HA.out (by simp [cmp_Or_int.l0])
  | succ k1 =>
   have H := HA.out; clear HA; simp only [cmp_Or_int.l0] at H
   by_cases c2 : x8_1 < (l0.length : Int)
   ·rw [if_pos c2] at H
    have c2b0 : decide (x8_1 < (l0.length : Int)) = true := decide_eq_true c2; clear c2
    by_cases c3 : 0 ≤ x8_1
    ·rw [if_pos c3] at H
     have c3b0 : decide (0 ≤ x8_1) = true := decide_eq_true c3; clear c3
     by_cases c4 : x8_1 < (l0.length : Int)
     ·rw [if_pos c4] at H
      have c4b0 : decide (x8_1 < (l0.length : Int)) = true := decide_eq_true c4; clear c4
      by_cases c5 : (rd l0 x8_1) = 0
      ·rw [if_pos c5] at H
       have c5b0 : ((rd l0 x8_1) == 0) = true := beq_iff_eq.mpr c5; have c5b1 : ((rd l0 x8_1) != 0) = false := bne_eq_false_iff_eq.mpr c5; clear c5; have H' := aaM H; clear H; have p162 : 0 ≤ (x8_1 : Int) := of_decide_eq_true (by first | (with_reducible assumption) | assumption); have q162 : x8_1 < (l0.length : Int) := of_decide_eq_true (by first | (with_reducible assumption) | assumption); obtain ⟨ad162, e162, hx162_0⟩ := Kd.at_int HR0.out x8_1 p162 q162
       cases e162
       replace p162 := eq_true p162; replace q162 := eq_true q162; go_wp2
       go_roundg k1
       case measure => have := HK1.out; omega
       case rel => exact ⟨(wrap64 (x8_1 + 1)), (eF), H', ⟨by have := HK1.out; omega⟩, by repeat (first | exact Drawn0.refl _ | apply Drawn0.step)⟩
      ·rw [if_neg c5] at H
       have c5b0 : ((rd l0 x8_1) == 0) = false := beq_eq_false_iff_ne.mpr c5; have c5b1 : ((rd l0 x8_1) != 0) = true := bne_iff_ne.mpr c5; obtain rfl := Option.some.inj H; have p162 : 0 ≤ (x8_1 : Int) := of_decide_eq_true (by first | (with_reducible assumption) | assumption); have q162 : x8_1 < (l0.length : Int) := of_decide_eq_true (by first | (with_reducible assumption) | assumption); obtain ⟨ad162, e162, hx162_0⟩ := Kd.at_int HR0.out x8_1 p162 q162
       cases e162
       replace p162 := eq_true p162; replace q162 := eq_true q162; go_wp2
       all_goals (go_ret; exact ⟨eF, by repeat (first | exact Drawn0.refl _ | apply Drawn0.step)⟩)
     ·rw [if_neg c4] at H
      exact absurd H (by simp)
    ·rw [if_neg c3] at H
     exact absurd H (by simp)
   ·rw [if_neg c2] at H
    have c2b0 : decide (x8_1 < (l0.length : Int)) = false := decide_eq_false c2; clear c2; obtain rfl := Option.some.inj H; go_wp2
    all_goals (go_ret; exact ⟨eF, by repeat (first | exact Drawn0.refl _ | apply Drawn0.step)⟩)

/-! ### prod_Cmp: function 101 -/
def prod_Cmp.f (k : Nat) (a0_0 : Int) (a0_1 : Int) (a1_0 : Int) (a1_1 : Int) : Option (Int) := (cmp_Compare_uint64.f a0_0 a1_0).bind fun t165 => ((cmp_Compare_uint64.f a0_1 a1_1).bind fun t166 => ((cmp_Or_int.f k (([t165, t166] : List Int))).bind fun t170 => (some t170)))
theorem prod_Cmp.mono : ∀ a0 a1 a2 a3 k, LeO (prod_Cmp.f k a0 a1 a2 a3) (prod_Cmp.f (k + 1) a0 a1 a2 a3) := by
 intro a0 a1 a2 a3 k
 unfold prod_Cmp.f
 repeat' first
   | (with_reducible exact cmp_Or_int.mono _ _)
   | (with_reducible exact LeO.refl _)
   | (with_reducible exact LeO.none _)
   | (with_reducible refine LeO.ite ?_ ?_)
   | (with_reducible refine LeO.bind ?_ (fun _ => ?_))
   | exact cmp_Or_int.mono _ _
   | exact LeO.none _
   | refine LeO.ite ?_ ?_
   | refine LeO.bind ?_ (fun _ => ?_)
def prod_Cmp.T1 : Bool × List (List Nat × List Nat) := (true, [([], []), ([0], [0]), ([], []), ([2], [2]), ([1, 3], [1, 3]), ([], []), ([5], [5]), ([], []), ([7], [7]), ([6, 8, 4], [6, 8]), ([4, 9], [4, 9]), ([10, 9], [10]), ([11, 11, 0, 1, 2, 3, 4, 5, 6, 7, 8, 9, 10, 11], [11])])
def prod_Cmp.B1 : List Nat := [0, 1, 0, 4, 15, 0, 32, 0, 128, 511, 1023, 2047, 4095]
theorem prod_Cmp.tab1 : rtab .any (opsOf Try.f101 1) = prod_Cmp.T1 := by kernel_rfl
theorem prod_Cmp.bits1 : waitsOk prod_Cmp.T1.2 prod_Cmp.B1 = true := by kernel_rfl
set_option maxHeartbeats 8000000 in
set_option maxRecDepth 100000 in
theorem prod_Cmp.calls (k : Nat) (a0_0 : Int) (a0_1 : Int) (a1_0 : Int) (a1_1 : Int) (r : Int) (w : World) (h : prod_Cmp.f k a0_0 a0_1 a1_0 a1_1 = some r) :
  Calls Try.prog 101 #[.agg #[.int .u64 a0_0, .int .u64 a0_1], .agg #[.int .u64 a1_0, .int .u64 a1_1]] w fun e w' => e = .returned (.int .i64 r) ∧ Below w.heap.size w w' := by
 have hu30 := Try.underlying30
 have HB := aaM (Below.refl w.heap.size w)
 have H : ((cmp_Compare_uint64.f a0_0 a1_0).bind fun t165 => ((cmp_Compare_uint64.f a0_1 a1_1).bind fun t166 => ((cmp_Or_int.f k (([t165, t166] : List Int))).bind fun t170 => (some t170)))) = some r := h
 clear h
 replace H := ooB.mp H
 obtain ⟨t165, A30, H⟩ := H
 replace H : ((cmp_Compare_uint64.f a0_1 a1_1).bind fun t166 => ((cmp_Or_int.f k (([t165, t166] : List Int))).bind fun t170 => (some t170))) = some r := H
 have A3 := aaM A30
 clear A30
 replace H := ooB.mp H
 obtain ⟨t166, A40, H⟩ := H
 replace H : ((cmp_Or_int.f k (([t165, t166] : List Int))).bind fun t170 => (some t170)) = some r := H
 have A4 := aaM A40
 clear A40
 obtain ⟨y167, hy167⟩ : ∃ y_ : List Int, y_ = (([t165, t166] : List Int)) := ⟨_, rfl⟩
 replace H : ((cmp_Or_int.f k y167).bind fun t170 => (some t170)) = some r := by first | (rw [hy167]; with_reducible exact H) | (have H2_ := (Option.bind_some _ _).symm.trans H; rw [hy167]; with_reducible exact H2_) | (have H2_ := (Option.bind_some _ _).symm.trans H; with_reducible exact H2_) | with_reducible exact H | (rw [hy167]; exact H) | exact H
 have Ny167 := aaM hy167
 clear hy167
 replace H := ooB.mp H
 obtain ⟨t170, A50, H⟩ := H
 replace H : (some t170) = some r := H
 have A5 := aaM A50
 clear A50
 obtain rfl := Option.some.inj H
 go_enter Try.func101, Try.ntmps101
 try go_wp2_with (first | ((with_reducible refine gate_dst (N := 2) rfl ?_); refine bxF w HB 2 #[.int .u64 a0_0, .int .u64 a0_1] 30 ?_; intro gb163 hg w6 hb BK163 HB GE163; have GW163 := GE163; clear hb hg) | ((with_reducible refine gate_dst (N := 3) rfl ?_); refine bxF w HB 3 #[.int .u64 a1_0, .int .u64 a1_1] 30 ?_; intro gb164 hg w7 hb BK164 HB GE164; have GW164 := GE164; obtain ⟨NB163_164, NB164_163⟩ := nS hg BK163; replace BK163 := bY hb BK163; clear hb hg))
 replace BK163 := aaM (bD BK163.out)
 replace BK164 := aaM (bD BK164.out)
 replace HB := aaM (lD HB.out)
 refine start_ (n := 13) (S := fun w' => w'.cell? ⟨gb163, 0, none⟩ = some (.int .u64 a0_0) ∧ w'.cell? ⟨gb163, 1, none⟩ = some (.int .u64 a0_1) ∧ w'.cell? ⟨gb164, 0, none⟩ = some (.int .u64 a1_0) ∧ w'.cell? ⟨gb164, 1, none⟩ = some (.int .u64 a1_1)) (ds := []) _ (by kernel_rfl) rfl rfl hD (fun hHeld => ?_); refine with_tabW prod_Cmp.tab1 prod_Cmp.bits1 (fun HT_ HW_ => ?_)
 generalize w7.drew = w8 at BK163 BK164 HB hHeld ⊢
 refine pU 0 5 (qB 13 1) HT_ ?_
 refine pU 2 7 (qB 13 5) HT_ ?_
 refine pU 5 10 (qB 13 37) HT_ ?_
 refine pU 7 12 (qB 13 165) HT_ ?_
 refine tU 1 6 (qB 13 167) HT_ HW_ hHeld ?_
 refine tU 3 8 (qB 13 175) HT_ HW_ hHeld ?_
 refine tU 6 11 (qB 13 239) HT_ HW_ hHeld ?_
 refine tU 8 13 (qB 13 495) HT_ HW_ hHeld ?_
 refine oU 4 (some 9) (qB 13 511) HT_ (fun K hK => ?_)
 refine gU Try.func52 #[.int .u64 a0_0, .int .u64 a1_0] ?_
 with_reducible refine (cmp_Compare_uint64.calls a0_0 a1_0 t165 _ A3.out).mono ?_
 rintro e w' ⟨rfl, ⟨nd, rfl⟩⟩
 refine ⟨_, rfl, ?_⟩
 refine hK.out _ _ hD (fun hHeld => ?_)
 clear hK K
 refine nU 9 ?_
 refine oU 9 (some 14) (qB 13 1023) HT_ (fun K hK => ?_)
 refine gU Try.func52 #[.int .u64 a0_1, .int .u64 a1_1] ?_
 with_reducible refine (cmp_Compare_uint64.calls a0_1 a1_1 t166 _ A4.out).mono ?_
 rintro e w' ⟨rfl, ⟨nd, rfl⟩⟩
 refine ⟨_, rfl, ?_⟩
 refine hK.out _ _ hD (fun hHeld => ?_)
 clear hK K
 refine nU 14 ?_
 refine oU 10 (some 15) (qB 13 2047) HT_ (fun K hK => ?_)
 refine Kd.R_lit_step (Kd.int .i64) _ 3 ?hg (N := 15) ?hd (xs := ([t165, t166] : List Int)) (inner := [.int .i64 t165, .int .i64 t166]) (ok := fun _ => True) (okp := fun _ => True) ?hr ?hp (fun _ hk => hk) trivial (Below.refl _ _) (Nat.le_refl _) (by simp) ?_; (case hd => rfl); (case hg => rfl); (case hr => first | (go_simp; done) | (go_simp; rfl)); (case hp => exact (Reps.one (show Kd.M (Kd.int .i64) _ _ _ t165 [.int .i64 t165] from rfl) (Reps.one (show Kd.M (Kd.int .i64) _ _ _ t166 [.int .i64 t166] from rfl) (Reps.none _ _))))
 intro v168 w9 ho10 hb hg_ hnew_
 clear hg_ hnew_
 (first | rw [← Ny167.out] at ho10 | (simp only [Int.reduceToNat] at ho10; rw [← Ny167.out] at ho10))
 have HO169 := aaM (Kd.R_lower ho10 (lZ (lB HB)))
 replace BK163 := bY hb BK163
 replace BK164 := bY hb BK164
 replace HB := aaM (lP (lB HB) hb)
 clear hb ho10
 obtain ⟨Ao11, co11, eo11⟩ := Kd.R_slice HO169.out
 (first | subst eo11 | (injection eo11 with f1_ f2_ f3_; have f4_ := f1_.symm; have f5_ := f3_.symm; clear f1_ f2_ f3_; subst f4_; subst f5_))
 refine hK.out _ _ hD (fun hHeld => ?_)
 clear hK K
 refine nU 15 ?_
 refine oU 11 (some 16) (qB 13 4095) HT_ (fun K hK => ?_)
 refine gU Try.func104 #[.slice Ao11 y167.length co11] ?_
 with_reducible refine (cmp_Or_int.calls k _ _ y167 t170 _ ?side1 ?side2 A5.out).mono ?_
 (case side1 => repeat (first | exact (Kd.R_reads' HO169.out).2.2 | (with_reducible refine ccA ?_ _) | (with_reducible refine ccN ?_ _) | (with_reducible refine ccD ?_)))
 (case side2 => exact (Kd.R_reads' HO169.out).2.1)
 rintro e w' ⟨rfl, ⟨nd, rfl⟩⟩
 refine ⟨_, rfl, ?_⟩
 refine hK.out _ _ hD (fun hHeld => ?_)
 clear hK K
 refine nU 16 ?_
 refine pU 12 4 (qB 13 8191) HT_ ?_
 refine done_ (done_of HT_.out (by kernel_rfl)) ?_
 try go_wp2
 all_goals (go_ret; exact ⟨by first | rfl | (simp [errW_none, errW_some] <;> rfl) | (simp [*, errW_none, errW_some] <;> rfl) | (simp_all; done), lB HB⟩)

/-! ### spread_bound: function 102 -/
def spread_bound.f (a0_0 : Int) (a0_1 : Int) (a0_2 : Int) : Option (Int × Int) := (prod_Mul.f (IntKind.u64.wrap (a0_0)) (IntKind.u64.wrap (a0_2))).bind fun bt173 => (some (bt173.1, bt173.2))
set_option maxHeartbeats 8000000 in
set_option maxRecDepth 100000 in
theorem spread_bound.calls (a0_0 : Int) (a0_1 : Int) (a0_2 : Int) (r1 : Int) (r2 : Int) (w : World) (h : spread_bound.f a0_0 a0_1 a0_2 = some (r1, r2)) :
  Calls Try.prog 102 #[.agg #[.int .i64 a0_0, .int .i64 a0_1, .int .i64 a0_2]] w fun e w' => e = .returned (.agg #[.int .u64 r1, .int .u64 r2]) ∧ Below w.heap.size w w' := by
 have hu54 := Try.underlying54
 have hu30 := Try.underlying30
 have HB := aaM (Below.refl w.heap.size w)
 have H : ((prod_Mul.f (IntKind.u64.wrap (a0_0)) (IntKind.u64.wrap (a0_2))).bind fun bt173 => (some (bt173.1, bt173.2))) = some (r1, r2) := h
 clear h
 replace H := ooB.mp H
 obtain ⟨⟨t173, t174⟩, A20, H⟩ := H
 replace H : (some (t173, t174)) = some (r1, r2) := H
 have A2 := aaM A20
 clear A20
 simp only [Option.some.injEq, Prod.mk.injEq] at H
 obtain ⟨rfl, rfl⟩ := H
 go_enter Try.func102, Try.ntmps102
 go_wp2_with (first | ((with_reducible refine gate_dst (N := 1) rfl ?_); refine bxF w HB 1 #[.int .i64 a0_0, .int .i64 a0_1, .int .i64 a0_2] 54 ?_; intro gb171 hg w3 hb BK171 HB GE171; have GW171 := GE171; clear hb hg) | ((with_reducible refine gate_dst (N := 2) rfl ?_); refine bxF w HB 2 #[.int .u64 0, .int .u64 0] 30 ?_; intro gb172 hg w4 hb BK172 HB GE172; have GW172 := GE172; obtain ⟨NB171_172, NB172_171⟩ := nS hg BK171; replace BK171 := bY hb BK171; clear hb hg; have := NB171_172.out; have := NB172_171.out; obtain ⟨_, _, _, _, _, _⟩ := bE3 BK171.out) | ((with_reducible refine gate_callee (f := 87) rfl ?_); refine gL (some 9) Try.func87 #[.int .u64 (IntKind.u64.wrap (a0_0)), .int .u64 (IntKind.u64.wrap (a0_2))] ?_; (with_reducible refine (prod_Mul.calls (IntKind.u64.wrap (a0_0)) (IntKind.u64.wrap (a0_2)) t173 t174 _ A2.out).mono ?_); rintro e w7 ⟨rfl, hb⟩; refine ⟨_, rfl, ?_⟩; replace BK171 := bY hb BK171; replace BK172 := bY hb BK172; replace HB := aaM (lP (lB HB) hb); (try clear hb); (try clear hb2); (try clear hk); (try clear hi); obtain ⟨_, _, _, _⟩ := bE2 BK172.out))
 refine bodyPost_ret (results_cell_row rfl _ _ gb172 30 #[.int .u64 t173, .int .u64 t174] (0, 0) _ rfl (bZ BK172) Try.underlying30 rfl (by kernel_rfl)) rfl ?_
 exact ⟨eE, lB HB⟩

/-! ### spread_May: function 96 -/
mutual
def spread_May.j0 : Nat → Bool → Int → Int → Int → Option (Bool)
 | 0, _, _, _, _ => none
 | k + 1, x26, x176000, x176001, x176002 => if x26 = true then (some false) else (if x176001 > (wrap64 (1048576 * x176000)) then (spread_May.j1 k true x176000 x176001 x176002) else (spread_May.j1 k (decide (x176001 < (wrap64 ((-1048576) * x176000)))) x176000 x176001 x176002))
def spread_May.j1 : Nat → Bool → Int → Int → Int → Option (Bool)
 | 0, _, _, _, _ => none
 | k + 1, x40, x176000, x176001, x176002 => if x40 = true then (some false) else ((prod_Square.f x176001).bind fun bt179 => ((spread_bound.f x176000 x176001 x176002).bind fun bt181 => ((prod_Cmp.f k bt179.1 bt179.2 bt181.1 bt181.2).bind fun t183 => (some (decide (t183 ≤ 0))))))
end
def spread_May.f (k : Nat) (a0_0 : Int) (a0_1 : Int) (a0_2 : Int) : Option (Bool) := (spread_none.f).bind fun bt176 => (if (a0_0 == bt176.1 && (a0_1 == bt176.2.1 && (a0_2 == bt176.2.2))) = true then (some true) else (if a0_0 < 1 then (spread_May.j0 k true a0_0 a0_1 a0_2) else (if a0_0 > 1048576 then (spread_May.j0 k true a0_0 a0_1 a0_2) else (if a0_2 < 0 then (spread_May.j0 k true a0_0 a0_1 a0_2) else (spread_May.j0 k (decide (a0_2 > (wrap64 (1099511627776 * a0_0)))) a0_0 a0_1 a0_2)))))
theorem spread_May.mono_l : ∀ k, (∀ y0 y1 y2 y3, LeO (spread_May.j0 k y0 y1 y2 y3) (spread_May.j0 (k + 1) y0 y1 y2 y3)) ∧ (∀ y0 y1 y2 y3, LeO (spread_May.j1 k y0 y1 y2 y3) (spread_May.j1 (k + 1) y0 y1 y2 y3))
 | 0 => ⟨fun _ _ _ _ r h => by simp [spread_May.j0] at h, fun _ _ _ _ r h => by simp [spread_May.j1] at h⟩
 | k + 1 => by
  obtain ⟨ih0, ih1⟩ := spread_May.mono_l k
  refine ⟨?_, ?_⟩
  all_goals (intros; first | unfold spread_May.j0 | unfold spread_May.j1)
  all_goals repeat' first
   | (with_reducible exact ih0 _ _ _ _)
   | (with_reducible exact ih1 _ _ _ _)
   | (with_reducible exact prod_Cmp.mono _ _ _ _ _)
   | (with_reducible exact LeO.refl _)
   | (with_reducible exact LeO.none _)
   | (with_reducible refine LeO.ite ?_ ?_)
   | (with_reducible refine LeO.bind ?_ (fun _ => ?_))
   | exact ih0 _ _ _ _
   | exact ih1 _ _ _ _
   | exact prod_Cmp.mono _ _ _ _ _
   | exact LeO.none _
   | refine LeO.ite ?_ ?_
   | refine LeO.bind ?_ (fun _ => ?_)
theorem spread_May.mono : ∀ a0 a1 a2 k, LeO (spread_May.f k a0 a1 a2) (spread_May.f (k + 1) a0 a1 a2) := by
 intro a0 a1 a2 k
 obtain ⟨ih0, ih1⟩ := spread_May.mono_l k
 unfold spread_May.f
 repeat' first
   | (with_reducible exact ih0 _ _ _ _)
   | (with_reducible exact ih1 _ _ _ _)
   | (with_reducible exact prod_Cmp.mono _ _ _ _ _)
   | (with_reducible exact LeO.refl _)
   | (with_reducible exact LeO.none _)
   | (with_reducible refine LeO.ite ?_ ?_)
   | (with_reducible refine LeO.bind ?_ (fun _ => ?_))
   | exact ih0 _ _ _ _
   | exact ih1 _ _ _ _
   | exact prod_Cmp.mono _ _ _ _ _
   | exact LeO.none _
   | refine LeO.ite ?_ ?_
   | refine LeO.bind ?_ (fun _ => ?_)
def spread_May.T7 : Bool × List (List Nat × List Nat) := (true, [([], []), ([0], [0]), ([1], [1]), ([], []), ([3, 2], [3]), ([2, 4, 4], [2, 4]), ([5], [5]), ([6, 5, 0, 1, 2, 3, 4, 5, 6], [6])])
def spread_May.B7 : List Nat := [0, 1, 3, 0, 15, 31, 63, 127]
theorem spread_May.tab7 : rtab .any (opsOf Try.f96 7) = spread_May.T7 := by kernel_rfl
theorem spread_May.bits7 : waitsOk spread_May.T7.2 spread_May.B7 = true := by kernel_rfl
set_option maxHeartbeats 8000000 in
set_option maxRecDepth 100000 in
theorem spread_May.calls (k : Nat) (a0_0 : Int) (a0_1 : Int) (a0_2 : Int) (r : Bool) (w : World) (h : spread_May.f k a0_0 a0_1 a0_2 = some r) :
  Calls Try.prog 96 #[.agg #[.int .i64 a0_0, .int .i64 a0_1, .int .i64 a0_2]] w fun e w' => e = .returned (.bool r) ∧ Below w.heap.size w w' := by
 have hu54 := Try.underlying54
 have HB := aaM (Below.refl w.heap.size w)
 have H : ((spread_none.f).bind fun bt176 => (if (a0_0 == bt176.1 && (a0_1 == bt176.2.1 && (a0_2 == bt176.2.2))) = true then (some true) else (if a0_0 < 1 then (spread_May.j0 k true a0_0 a0_1 a0_2) else (if a0_0 > 1048576 then (spread_May.j0 k true a0_0 a0_1 a0_2) else (if a0_2 < 0 then (spread_May.j0 k true a0_0 a0_1 a0_2) else (spread_May.j0 k (decide (a0_2 > (wrap64 (1099511627776 * a0_0)))) a0_0 a0_1 a0_2)))))) = some r := h
 clear h
 replace H := ooB.mp H
 obtain ⟨⟨t176, t177, t178⟩, A20, H⟩ := H
 replace H : (if (a0_0 == t176 && (a0_1 == t177 && (a0_2 == t178))) = true then (some true) else (if a0_0 < 1 then (spread_May.j0 k true a0_0 a0_1 a0_2) else (if a0_0 > 1048576 then (spread_May.j0 k true a0_0 a0_1 a0_2) else (if a0_2 < 0 then (spread_May.j0 k true a0_0 a0_1 a0_2) else (spread_May.j0 k (decide (a0_2 > (wrap64 (1099511627776 * a0_0)))) a0_0 a0_1 a0_2))))) = some r := H
 have A2 := aaM A20
 clear A20
 by_cases c3 : (a0_0 == t176 && (a0_1 == t177 && (a0_2 == t178))) = true
 ·rw [if_pos c3] at H
  have c3b0 : (a0_0 == t176 && (a0_1 == t177 && (a0_2 == t178))) = true := c3; (try (have c3b1 : decide (a0_0 = t176 && (a0_1 == t177 && (a0_2 == t178))) = true := by simpa using c3)); (try (have c3b2 : (a0_0 == t176 && (a0_1 == t177 && (a0_2 == t178))) = true := by simpa using c3)); clear c3; obtain rfl := Option.some.inj H; go_enter Try.func96, Try.ntmps96; (try go_wp2_with (first | ((with_reducible refine gate_dst (N := 1) rfl ?_); refine bxF w HB 1 #[.int .i64 a0_0, .int .i64 a0_1, .int .i64 a0_2] 54 ?_; intro gb175 hg w4 hb BK175 HB GE175; have GW175 := GE175; clear hb hg))); replace BK175 := aaM (bD BK175.out); replace HB := aaM (lD HB.out); refine start_ (n := 3) (S := fun w' => w'.cell? ⟨gb175, 0, none⟩ = some (.int .i64 a0_0) ∧ w'.cell? ⟨gb175, 1, none⟩ = some (.int .i64 a0_1) ∧ w'.cell? ⟨gb175, 2, none⟩ = some (.int .i64 a0_2)) (ds := []) _ (by kernel_rfl) rfl rfl hD (fun hHeld => ?_); generalize w4.drew = w5 at BK175 HB hHeld ⊢; refine take_ (i := 0) (N := some 3) (v := ?_) (a' := ?_) #[true, false, false] rfl rfl (by kernel_rfl) (fun _ _ _ h => h) (Or.inl ⟨by rfl, ?_⟩) hHeld ?_ ?_; rotate_left
  ·rintro w' ⟨s0, s1, s2⟩
   go_simp; (with_reducible rfl)
  rotate_left
  ·simp only [Act.put, ssB, ssZ, ssS, i64_w, i32_w]
   rfl
  refine one_ (i := 1) (N := some 4) #[true, true, false] rfl rfl (by kernel_rfl) (by decide) (fun K hK => ?_); refine gU Try.func100 #[] ?_; (with_reducible refine (spread_none.calls  t176 t177 t178 _ A2.out).mono ?_); rintro e w6 ⟨rfl, hb⟩; refine ⟨_, rfl, ?_⟩; replace BK175 := bY hb BK175; replace HB := aaM (lP (lB HB) hb); (try clear hb); (try clear hb2); (try clear hk); (try clear hi); refine hK.out _ _ hD (fun hHeld => ?_); clear hK K; refine nU 4 ?_
  refine pure_ (i := 2) (N := some 5) (v := ?_) (a' := ?_) #[true, true, true] rfl rfl (by kernel_rfl) (fun _ _ _ h => h) (Or.inl ⟨by rfl, ?_⟩) ?_ ?_; rotate_left
  ·intro w'
   go_simp; (with_reducible rfl)
  rotate_left
  ·simp only [Act.put, ssB, ssZ, ssS, i64_w, i32_w]
   rfl
  refine done_ (by kernel_rfl) ?_; (try go_wp2)
  all_goals (go_ret; exact ⟨by first | rfl | (simp [errW_none, errW_some] <;> rfl) | (simp [*, errW_none, errW_some] <;> rfl) | (simp_all; done), lB HB⟩)
 ·rw [if_neg c3] at H
  have c3b0 : (a0_0 == t176 && (a0_1 == t177 && (a0_2 == t178))) = false := by simpa using c3
  (try (have c3b1 : decide (a0_0 = t176 && (a0_1 == t177 && (a0_2 == t178))) = false := by simpa using c3)); (try (have c3b2 : (a0_0 == t176 && (a0_1 == t177 && (a0_2 == t178))) = false := by simpa using c3)); (try (have c3b3 : ¬ (a0_0 = t176 && (a0_1 == t177 && (a0_2 == t178))) := by simpa using c3)); clear c3; have HC7 := aaM H; clear H; go_enter Try.func96, Try.ntmps96; (try go_wp2_with (first | ((with_reducible refine gate_dst (N := 1) rfl ?_); refine bxF w HB 1 #[.int .i64 a0_0, .int .i64 a0_1, .int .i64 a0_2] 54 ?_; intro gb175 hg w8 hb BK175 HB GE175; have GW175 := GE175; clear hb hg))); replace BK175 := aaM (bD BK175.out); replace HB := aaM (lD HB.out); refine start_ (n := 3) (S := fun w' => w'.cell? ⟨gb175, 0, none⟩ = some (.int .i64 a0_0) ∧ w'.cell? ⟨gb175, 1, none⟩ = some (.int .i64 a0_1) ∧ w'.cell? ⟨gb175, 2, none⟩ = some (.int .i64 a0_2)) (ds := []) _ (by kernel_rfl) rfl rfl hD (fun hHeld => ?_); generalize w8.drew = w9 at BK175 HB hHeld ⊢; refine take_ (i := 0) (N := some 3) (v := ?_) (a' := ?_) #[true, false, false] rfl rfl (by kernel_rfl) (fun _ _ _ h => h) (Or.inl ⟨by rfl, ?_⟩) hHeld ?_ ?_; rotate_left
  ·rintro w' ⟨s0, s1, s2⟩
   go_simp; (with_reducible rfl)
  rotate_left
  ·simp only [Act.put, ssB, ssZ, ssS, i64_w, i32_w]
   rfl
  refine one_ (i := 1) (N := some 4) #[true, true, false] rfl rfl (by kernel_rfl) (by decide) (fun K hK => ?_); refine gU Try.func100 #[] ?_; (with_reducible refine (spread_none.calls  t176 t177 t178 _ A2.out).mono ?_); rintro e w10 ⟨rfl, hb⟩; refine ⟨_, rfl, ?_⟩; replace BK175 := bY hb BK175; replace HB := aaM (lP (lB HB) hb); (try clear hb); (try clear hb2); (try clear hk); (try clear hi); refine hK.out _ _ hD (fun hHeld => ?_); clear hK K; refine nU 4 ?_
  refine pure_ (i := 2) (N := some 5) (v := ?_) (a' := ?_) #[true, true, true] rfl rfl (by kernel_rfl) (fun _ _ _ h => h) (Or.inl ⟨by rfl, ?_⟩) ?_ ?_; rotate_left
  ·intro w'
   go_simp; (with_reducible rfl)
  rotate_left
  ·simp only [Act.put, ssB, ssZ, ssS, i64_w, i32_w]
   rfl
  refine done_ (by kernel_rfl) ?_
  go_upto_region 3 with (fail)
  go_cut [26] (fun v26 wc => ∃ (kq : Nat) (x26_6 : Bool), v26 = .bool x26_6 ∧ Aside0 (spread_May.j0 kq x26_6 a0_0 a0_1 a0_2 = some r) ∧ Aside0 (kq ≤ k) ∧ Aside0 (wc.heap[gb175]? = some (.cells #[.int .i64 a0_0, .int .i64 a0_1, .int .i64 a0_2] 54 (0, 0))) ∧ Aside0 (Below w.heap.size w wc))
  case first =>
   have H := HC7.out; clear HC7
   by_cases c11 : a0_0 < 1
   ·rw [if_pos c11] at H
    have c11b0 : decide (a0_0 < 1) = true := decide_eq_true c11; clear c11; (first | rw [c11b0] | (simp only [i64_w, i32_w]; rw [c11b0]) | skip); have H' := aaM H; clear H; obtain ⟨hcz12_0, hcz12_1, hcz12_2, hfz12_0, hfz12_1, hfz12_2⟩ := bE3 BK175.out; go_wp2
    go_meet
    case rel => exact ⟨_, (true), (eF), H', ⟨by first | omega | exact Nat.le_refl _⟩, ⟨bZ BK175⟩, ⟨lB HB⟩⟩
   ·rw [if_neg c11] at H
    have c11b0 : decide (a0_0 < 1) = false := decide_eq_false c11; clear c11; (first | rw [c11b0] | (simp only [i64_w, i32_w]; rw [c11b0]) | skip)
    by_cases c13 : a0_0 > 1048576
    ·rw [if_pos c13] at H
     have c13b0 : decide (1048576 < a0_0) = true := decide_eq_true c13; clear c13; have H' := aaM H; clear H; obtain ⟨hcz14_0, hcz14_1, hcz14_2, hfz14_0, hfz14_1, hfz14_2⟩ := bE3 BK175.out; go_wp2
     go_meet
     case rel => exact ⟨_, (true), (eF), H', ⟨by first | omega | exact Nat.le_refl _⟩, ⟨bZ BK175⟩, ⟨lB HB⟩⟩
    ·rw [if_neg c13] at H
     have c13b0 : decide (1048576 < a0_0) = false := decide_eq_false c13; clear c13
     by_cases c15 : a0_2 < 0
     ·rw [if_pos c15] at H
      have c15b0 : decide (a0_2 < 0) = true := decide_eq_true c15; clear c15; have H' := aaM H; clear H; obtain ⟨hcz16_0, hcz16_1, hcz16_2, hfz16_0, hfz16_1, hfz16_2⟩ := bE3 BK175.out; go_wp2
      go_meet
      case rel => exact ⟨_, (true), (eF), H', ⟨by first | omega | exact Nat.le_refl _⟩, ⟨bZ BK175⟩, ⟨lB HB⟩⟩
     ·rw [if_neg c15] at H
      have c15b0 : decide (a0_2 < 0) = false := decide_eq_false c15; clear c15; have H' := aaM H; clear H; obtain ⟨hcz17_0, hcz17_1, hcz17_2, hfz17_0, hfz17_1, hfz17_2⟩ := bE3 BK175.out; go_wp2
      go_meet
      case rel => exact ⟨_, (decide (a0_2 > (wrap64 (1099511627776 * a0_0)))), (eF), H', ⟨by first | omega | exact Nat.le_refl _⟩, ⟨bZ BK175⟩, ⟨lB HB⟩⟩
  case rest =>
   clear HC7; (try clear c1); (try clear p2); (try clear c3); (try clear c3b0); (try clear c3b1); (try clear c3b2); (try clear p6); (try clear c9); (try clear c10); (try clear c11); (try clear c11b0); (try clear c13); (try clear c13b0); (try clear c15); (try clear c15b0); (try clear hcz12_0); (try clear hcz12_1); (try clear hcz12_2); (try clear hcz14_0); (try clear hcz14_1); (try clear hcz14_2); (try clear hcz16_0); (try clear hcz16_1); (try clear hcz16_2); (try clear hcz17_0); (try clear hcz17_1); (try clear hcz17_2); (try clear hfz12_0); (try clear hfz12_1); (try clear hfz12_2); (try clear hfz14_0); (try clear hfz14_1); (try clear hfz14_2); (try clear hfz16_0); (try clear hfz16_1); (try clear hfz16_2); (try clear hfz17_0); (try clear hfz17_1); (try clear hfz17_2); obtain ⟨kq, x26_6, rfl, HA, HJ6, BK175, HB⟩ := hcut
   cases kq with
   | zero => exact absurd HA.out (by simp [spread_May.j0])
   | succ kj6 =>
    have H := HA.out; clear HA; simp only [spread_May.j0] at H
    by_cases c18 : x26_6 = true
    ·subst c18
     have H1 : (some false) = some r := by rw [if_pos rfl] at H; exact H
     clear H; have H := H1; clear H1; obtain rfl := Option.some.inj H; go_wp2
     all_goals (go_ret; exact ⟨by first | rfl | (simp [errW_none, errW_some] <;> rfl) | (simp [*, errW_none, errW_some] <;> rfl) | (simp_all; done), lB HB⟩)
    ·replace c18 := Bool.eq_false_iff.mpr c18
     subst c18
     have H1 : (if a0_1 > (wrap64 (1048576 * a0_0)) then (spread_May.j1 kj6 true a0_0 a0_1 a0_2) else (spread_May.j1 kj6 (decide (a0_1 < (wrap64 ((-1048576) * a0_0)))) a0_0 a0_1 a0_2)) = some r := by rw [if_neg (show ¬ (false = true) by decide)] at H; exact H
     clear H; have H := H1; clear H1; have HC19 := aaM H; clear H
     go_upto_region 5 with (fail)
     go_cut [40] (fun v40 wc => ∃ (kq : Nat) (x40_18 : Bool), v40 = .bool x40_18 ∧ Aside0 (spread_May.j1 kq x40_18 a0_0 a0_1 a0_2 = some r) ∧ Aside0 (kq ≤ kj6) ∧ Aside0 (wc.heap[gb175]? = some (.cells #[.int .i64 a0_0, .int .i64 a0_1, .int .i64 a0_2] 54 (0, 0))) ∧ Aside0 (Below w.heap.size w wc))
     case first =>
      have H := HC19.out; clear HC19
      by_cases c20 : a0_1 > (wrap64 (1048576 * a0_0))
      ·rw [if_pos c20] at H
       have c20b0 : decide ((wrap64 (1048576 * a0_0)) < a0_1) = true := decide_eq_true c20; clear c20; (first | rw [c20b0] | (simp only [i64_w, i32_w]; rw [c20b0]) | skip); have H' := aaM H; clear H; obtain ⟨hcz21_0, hcz21_1, hcz21_2, hfz21_0, hfz21_1, hfz21_2⟩ := bE3 BK175.out; go_wp2
       go_meet
       case rel => exact ⟨_, (true), (eF), H', ⟨by have := HJ6.out; first | omega | exact Nat.le_refl _⟩, ⟨bZ BK175⟩, ⟨lB HB⟩⟩
      ·rw [if_neg c20] at H
       have c20b0 : decide ((wrap64 (1048576 * a0_0)) < a0_1) = false := decide_eq_false c20; clear c20; (first | rw [c20b0] | (simp only [i64_w, i32_w]; rw [c20b0]) | skip); have H' := aaM H; clear H; obtain ⟨hcz22_0, hcz22_1, hcz22_2, hfz22_0, hfz22_1, hfz22_2⟩ := bE3 BK175.out; go_wp2
       go_meet
       case rel => exact ⟨_, (decide (a0_1 < (wrap64 ((-1048576) * a0_0)))), (eF), H', ⟨by have := HJ6.out; first | omega | exact Nat.le_refl _⟩, ⟨bZ BK175⟩, ⟨lB HB⟩⟩
     case rest =>
      clear HC19; (try clear c1); (try clear c2); (try clear p2); (try clear c3); (try clear c3b0); (try clear c3b1); (try clear c3b2); (try clear p6); (try clear c9); (try clear c10); (try clear c11); (try clear c11b0); (try clear c13); (try clear c13b0); (try clear c15); (try clear c15b0); (try clear c18); (try clear c20); (try clear c20b0); (try clear hcz12_0); (try clear hcz12_1); (try clear hcz12_2); (try clear hcz14_0); (try clear hcz14_1); (try clear hcz14_2); (try clear hcz16_0); (try clear hcz16_1); (try clear hcz16_2); (try clear hcz17_0); (try clear hcz17_1); (try clear hcz17_2); (try clear hcz21_0); (try clear hcz21_1); (try clear hcz21_2); (try clear hcz22_0); (try clear hcz22_1); (try clear hcz22_2); (try clear hfz12_0); (try clear hfz12_1); (try clear hfz12_2); (try clear hfz14_0); (try clear hfz14_1); (try clear hfz14_2); (try clear hfz16_0); (try clear hfz16_1); (try clear hfz16_2); (try clear hfz17_0); (try clear hfz17_1); (try clear hfz17_2); (try clear hfz21_0); (try clear hfz21_1); (try clear hfz21_2); (try clear hfz22_0); (try clear hfz22_1); (try clear hfz22_2); (try clear p2); (try clear p6); obtain ⟨kq, x40_18, rfl, HA, HJ18, BK175, HB⟩ := hcut
      cases kq with
      | zero => exact absurd HA.out (by simp [spread_May.j1])
      | succ kj18 =>
       have H := HA.out; clear HA; simp only [spread_May.j1] at H
       by_cases c23 : x40_18 = true
       ·subst c23
        have H1 : (some false) = some r := by rw [if_pos rfl] at H; exact H
        clear H; have H := H1; clear H1; obtain rfl := Option.some.inj H; go_wp2
        all_goals (go_ret; exact ⟨by first | rfl | (simp [errW_none, errW_some] <;> rfl) | (simp [*, errW_none, errW_some] <;> rfl) | (simp_all; done), lB HB⟩)
       ·replace c23 := Bool.eq_false_iff.mpr c23
        subst c23
        have H1 : ((prod_Square.f a0_1).bind fun bt179 => ((spread_bound.f a0_0 a0_1 a0_2).bind fun bt181 => ((prod_Cmp.f kj18 bt179.1 bt179.2 bt181.1 bt181.2).bind fun t183 => (some (decide (t183 ≤ 0)))))) = some r := by rw [if_neg (show ¬ (false = true) by decide)] at H; exact H
        clear H; have H := H1; clear H1; replace H := ooB.mp H; obtain ⟨⟨t179, t180⟩, A240, H⟩ := H; replace H : ((spread_bound.f a0_0 a0_1 a0_2).bind fun bt181 => ((prod_Cmp.f kj18 t179 t180 bt181.1 bt181.2).bind fun t183 => (some (decide (t183 ≤ 0))))) = some r := H; have A24 := aaM A240; clear A240; replace H := ooB.mp H; obtain ⟨⟨t181, t182⟩, A250, H⟩ := H; replace H : ((prod_Cmp.f kj18 t179 t180 t181 t182).bind fun t183 => (some (decide (t183 ≤ 0)))) = some r := H; have A25 := aaM A250; clear A250; replace H := ooB.mp H; obtain ⟨t183, A260, H⟩ := H; replace H : (some (decide (t183 ≤ 0))) = some r := H; have A26 := aaM A260; clear A260; obtain rfl := Option.some.inj H; (try go_wp2); replace BK175 := aaM (bD BK175.out); replace HB := aaM (lD HB.out); refine start_ (n := 8) (S := fun w' => w'.cell? ⟨gb175, 0, none⟩ = some (.int .i64 a0_0) ∧ w'.cell? ⟨gb175, 1, none⟩ = some (.int .i64 a0_1) ∧ w'.cell? ⟨gb175, 2, none⟩ = some (.int .i64 a0_2)) (ds := []) _ (by kernel_rfl) rfl rfl hD (fun hHeld => ?_); refine with_tabW spread_May.tab7 spread_May.bits7 (fun HT_ HW_ => ?_); generalize wc.drew = w27 at BK175 HB hHeld ⊢; refine pU 0 41 (qB 8 1) HT_ ?_
        refine tU 1 42 (qB 8 3) HT_ HW_ hHeld ?_
        refine tU 3 44 (qB 8 11) HT_ HW_ hHeld ?_
        refine oU 2 (some 43) (qB 8 15) HT_ (fun K hK => ?_); refine gU Try.func98 #[.int .i64 a0_1] ?_; (with_reducible refine (prod_Square.calls a0_1 t179 t180 _ A24.out).mono ?_); rintro e w28 ⟨rfl, hb⟩; refine ⟨_, rfl, ?_⟩; replace BK175 := bY hb BK175; replace HB := aaM (lP (lB HB) hb); (try clear hb); (try clear hb2); (try clear hk); (try clear hi); refine hK.out _ _ hD (fun hHeld => ?_); clear hK K; refine nU 43 ?_
        refine oU 4 (some 45) (qB 8 31) HT_ (fun K hK => ?_); refine gU Try.func102 #[.agg #[.int .i64 a0_0, .int .i64 a0_1, .int .i64 a0_2]] ?_; (with_reducible refine (spread_bound.calls a0_0 a0_1 a0_2 t181 t182 _ A25.out).mono ?_); rintro e w29 ⟨rfl, hb⟩; refine ⟨_, rfl, ?_⟩; replace BK175 := bY hb BK175; replace HB := aaM (lP (lB HB) hb); (try clear hb); (try clear hb2); (try clear hk); (try clear hi); refine hK.out _ _ hD (fun hHeld => ?_); clear hK K; refine nU 45 ?_
        refine oU 5 (some 46) (qB 8 63) HT_ (fun K hK => ?_); refine gU Try.func101 #[.agg #[.int .u64 t179, .int .u64 t180], .agg #[.int .u64 t181, .int .u64 t182]] ?_; (with_reducible refine (prod_Cmp.calls kj18 t179 t180 t181 t182 t183 _ A26.out).mono ?_); rintro e w30 ⟨rfl, hb⟩; refine ⟨_, rfl, ?_⟩; replace BK175 := bY hb BK175; replace HB := aaM (lP (lB HB) hb); (try clear hb); (try clear hb2); (try clear hk); (try clear hi); refine hK.out _ _ hD (fun hHeld => ?_); clear hK K; refine nU 46 ?_
        refine pU 6 47 (qB 8 127) HT_ ?_
        refine pU 7 2 (qB 8 255) HT_ ?_
        refine done_ (done_of HT_.out (by kernel_rfl)) ?_; (try go_wp2)
        all_goals (go_ret; exact ⟨by first | rfl | (simp [errW_none, errW_some] <;> rfl) | (simp [*, errW_none, errW_some] <;> rfl) | (simp_all; done), lB HB⟩)

/-! ### spread_there: function 97 -/
def spread_there.f (k : Nat) (a0_0 : Int) (a0_1 : Int) (a0_2 : Int) : Option (Bool) := if a0_0 > 0 then ((spread_May.f k a0_0 a0_1 a0_2).bind fun t185 => (some t185)) else (some false)
theorem spread_there.mono : ∀ a0 a1 a2 k, LeO (spread_there.f k a0 a1 a2) (spread_there.f (k + 1) a0 a1 a2) := by
 intro a0 a1 a2 k
 unfold spread_there.f
 repeat' first
   | (with_reducible exact spread_May.mono _ _ _ _)
   | (with_reducible exact LeO.refl _)
   | (with_reducible exact LeO.none _)
   | (with_reducible refine LeO.ite ?_ ?_)
   | (with_reducible refine LeO.bind ?_ (fun _ => ?_))
   | exact spread_May.mono _ _ _ _
   | exact LeO.none _
   | refine LeO.ite ?_ ?_
   | refine LeO.bind ?_ (fun _ => ?_)
set_option maxHeartbeats 8000000 in
set_option maxRecDepth 100000 in
theorem spread_there.calls (k : Nat) (a0_0 : Int) (a0_1 : Int) (a0_2 : Int) (r : Bool) (w : World) (h : spread_there.f k a0_0 a0_1 a0_2 = some r) :
  Calls Try.prog 97 #[.agg #[.int .i64 a0_0, .int .i64 a0_1, .int .i64 a0_2]] w fun e w' => e = .returned (.bool r) ∧ Below w.heap.size w w' := by
 have hu54 := Try.underlying54
 have HB := aaM (Below.refl w.heap.size w)
 have H : (if a0_0 > 0 then ((spread_May.f k a0_0 a0_1 a0_2).bind fun t185 => (some t185)) else (some false)) = some r := h
 clear h
 by_cases c2 : a0_0 > 0
 ·rw [if_pos c2] at H
  have c2b0 : decide (0 < a0_0) = true := decide_eq_true c2; clear c2; replace H := ooB.mp H; obtain ⟨t185, A30, H⟩ := H; replace H : (some t185) = some r := H; have A3 := aaM A30; clear A30; obtain rfl := Option.some.inj H; go_enter Try.func97, Try.ntmps97
  go_wp2_with (first | ((with_reducible refine gate_dst (N := 1) rfl ?_); refine bxF w HB 1 #[.int .i64 a0_0, .int .i64 a0_1, .int .i64 a0_2] 54 ?_; intro gb184 hg w4 hb BK184 HB GE184; have GW184 := GE184; clear hb hg; obtain ⟨_, _, _, _, _, _⟩ := bE3 BK184.out) | (go_at_call 96; (with_reducible refine (spread_May.calls k a0_0 a0_1 a0_2 t185 _ A3.out).mono ?_); rintro e w6 ⟨rfl, hb⟩; replace BK184 := bY hb BK184; replace HB := aaM (lP (lB HB) hb); (try clear hb); (try clear hb2); (try clear hk); (try clear hi)))
  all_goals (go_ret; exact ⟨by first | rfl | (simp [errW_none, errW_some] <;> rfl) | (simp [*, errW_none, errW_some] <;> rfl) | (simp_all; done), lB HB⟩)
 ·rw [if_neg c2] at H
  have c2b0 : decide (0 < a0_0) = false := decide_eq_false c2; clear c2; obtain rfl := Option.some.inj H; go_enter Try.func97, Try.ntmps97
  go_wp2_with (first | ((with_reducible refine gate_dst (N := 1) rfl ?_); refine bxF w HB 1 #[.int .i64 a0_0, .int .i64 a0_1, .int .i64 a0_2] 54 ?_; intro gb184 hg w7 hb BK184 HB GE184; have GW184 := GE184; clear hb hg; obtain ⟨_, _, _, _, _, _⟩ := bE3 BK184.out))
  all_goals (go_ret; exact ⟨by first | rfl | (simp [errW_none, errW_some] <;> rfl) | (simp [*, errW_none, errW_some] <;> rfl) | (simp_all; done), lB HB⟩)

/-! ### spread_Alone: function 94 -/
def spread_Alone.f (k : Nat) (a0_0 : Int) (a0_1 : Int) (a0_2 : Int) : Option (Int × Int × Int) := (spread_there.f k a0_0 a0_1 a0_2).bind fun t188 => (if t188 = true then ((prod_Square.f a0_1).bind fun bt189 => (some (bt189.1, bt189.2, IntKind.u64.wrap (a0_0)))) else (some (0, 0, 0)))
theorem spread_Alone.mono : ∀ a0 a1 a2 k, LeO (spread_Alone.f k a0 a1 a2) (spread_Alone.f (k + 1) a0 a1 a2) := by
 intro a0 a1 a2 k
 unfold spread_Alone.f
 repeat' first
   | (with_reducible exact spread_there.mono _ _ _ _)
   | (with_reducible exact LeO.refl _)
   | (with_reducible exact LeO.none _)
   | (with_reducible refine LeO.ite ?_ ?_)
   | (with_reducible refine LeO.bind ?_ (fun _ => ?_))
   | exact spread_there.mono _ _ _ _
   | exact LeO.none _
   | refine LeO.ite ?_ ?_
   | refine LeO.bind ?_ (fun _ => ?_)
def spread_Alone.T3 : Bool × List (List Nat × List Nat) := (true, [([], []), ([0], [0]), ([1], [1]), ([], []), ([3], [3]), ([4], [4]), ([2, 5], [2, 5]), ([6, 2, 0, 1, 2, 3, 4, 5, 6], [6])])
def spread_Alone.B3 : List Nat := [0, 1, 3, 0, 8, 24, 63, 127]
theorem spread_Alone.tab3 : rtab .any (opsOf Try.f94 3) = spread_Alone.T3 := by kernel_rfl
theorem spread_Alone.bits3 : waitsOk spread_Alone.T3.2 spread_Alone.B3 = true := by kernel_rfl
set_option maxHeartbeats 8000000 in
set_option maxRecDepth 100000 in
theorem spread_Alone.calls (k : Nat) (a0_0 : Int) (a0_1 : Int) (a0_2 : Int) (r1 : Int) (r2 : Int) (r3 : Int) (w : World) (h : spread_Alone.f k a0_0 a0_1 a0_2 = some (r1, r2, r3)) :
  Calls Try.prog 94 #[.agg #[.int .i64 a0_0, .int .i64 a0_1, .int .i64 a0_2]] w fun e w' => e = .returned (.agg #[.int .u64 r1, .int .u64 r2, .int .u64 r3]) ∧ Below w.heap.size w w' := by
 have hu54 := Try.underlying54
 have hu32 := Try.underlying32
 have HB := aaM (Below.refl w.heap.size w)
 have H : ((spread_there.f k a0_0 a0_1 a0_2).bind fun t188 => (if t188 = true then ((prod_Square.f a0_1).bind fun bt189 => (some (bt189.1, bt189.2, IntKind.u64.wrap (a0_0)))) else (some (0, 0, 0)))) = some (r1, r2, r3) := h
 clear h
 replace H := ooB.mp H
 obtain ⟨t188, A20, H⟩ := H
 replace H : (if t188 = true then ((prod_Square.f a0_1).bind fun bt189 => (some (bt189.1, bt189.2, IntKind.u64.wrap (a0_0)))) else (some (0, 0, 0))) = some (r1, r2, r3) := H
 have A2 := aaM A20
 clear A20
 by_cases c3 : t188 = true
 ·subst c3
  have H1 : ((prod_Square.f a0_1).bind fun bt189 => (some (bt189.1, bt189.2, IntKind.u64.wrap (a0_0)))) = some (r1, r2, r3) := by rw [if_pos rfl] at H; exact H
  clear H; have H := H1; clear H1; replace H := ooB.mp H; obtain ⟨⟨t189, t190⟩, A40, H⟩ := H; replace H : (some (t189, t190, IntKind.u64.wrap (a0_0))) = some (r1, r2, r3) := H; have A4 := aaM A40; clear A40; simp only [Option.some.injEq, Prod.mk.injEq] at H; obtain ⟨rfl, rfl, rfl⟩ := H; go_enter Try.func94, Try.ntmps94; (try go_wp2_with (first | ((with_reducible refine gate_dst (N := 1) rfl ?_); refine bxF w HB 1 #[.int .i64 a0_0, .int .i64 a0_1, .int .i64 a0_2] 54 ?_; intro gb186 hg w5 hb BK186 HB GE186; have GW186 := GE186; clear hb hg) | ((with_reducible refine gate_dst (N := 2) rfl ?_); refine bxF w HB 2 #[.int .u64 0, .int .u64 0, .int .u64 0] 32 ?_; intro gb187 hg w6 hb BK187 HB GE187; have GW187 := GE187; obtain ⟨NB186_187, NB187_186⟩ := nS hg BK186; replace BK186 := bY hb BK186; clear hb hg; have := NB186_187.out; have := NB187_186.out; obtain ⟨_, _, _, _, _, _⟩ := bE3 BK186.out) | ((with_reducible refine gate_callee (f := 97) rfl ?_); refine gL (some 4) Try.func97 #[.agg #[.int .i64 a0_0, .int .i64 a0_1, .int .i64 a0_2]] ?_; (with_reducible refine (spread_there.calls k a0_0 a0_1 a0_2 true _ A2.out).mono ?_); rintro e w9 ⟨rfl, hb⟩; refine ⟨_, rfl, ?_⟩; replace BK186 := bY hb BK186; replace BK187 := bY hb BK187; replace HB := aaM (lP (lB HB) hb); (try clear hb); (try clear hb2); (try clear hk); (try clear hi)))); replace BK186 := aaM (bD BK186.out); replace BK187 := aaM (bD BK187.out); replace HB := aaM (lD HB.out)
  refine start_ (n := 8) (S := fun w' => w'.cell? ⟨gb186, 0, none⟩ = some (.int .i64 a0_0) ∧ w'.cell? ⟨gb186, 1, none⟩ = some (.int .i64 a0_1) ∧ w'.cell? ⟨gb186, 2, none⟩ = some (.int .i64 a0_2)) (ds := []) _ (by kernel_rfl) rfl rfl hD (fun hHeld => ?_); refine with_tabW spread_Alone.tab3 spread_Alone.bits3 (fun HT_ HW_ => ?_); generalize w9.drew = w10 at BK186 BK187 HB hHeld ⊢; refine pU 0 7 (qB 8 1) HT_ ?_
  refine pU 3 10 (qB 8 9) HT_ ?_
  refine tU 1 8 (qB 8 11) HT_ HW_ hHeld ?_
  refine tU 4 11 (qB 8 27) HT_ HW_ hHeld ?_
  refine pU 5 12 (qB 8 59) HT_ ?_
  refine oU 2 (some 9) (qB 8 63) HT_ (fun K hK => ?_); refine gU Try.func98 #[.int .i64 a0_1] ?_; (with_reducible refine (prod_Square.calls a0_1 t189 t190 _ A4.out).mono ?_); rintro e w11 ⟨rfl, hb⟩; refine ⟨_, rfl, ?_⟩; replace BK186 := bY hb BK186; replace BK187 := bY hb BK187; replace HB := aaM (lP (lB HB) hb); (try clear hb); (try clear hb2); (try clear hk); (try clear hi); refine hK.out _ _ hD (fun hHeld => ?_); clear hK K; refine nU 9 ?_
  refine pU 6 13 (qB 8 127) HT_ ?_
  refine oU 7 none (qB 8 255) HT_ (fun K hK => ?_); obtain ⟨hs12, -, -, hfs12, -, -⟩ := bE3 BK187.out; have := NB186_187.out; have := NB187_186.out; obtain ⟨-, hs13, -, -, hfs13, -⟩ := bE3 BK187.out; have := NB186_187.out; have := NB187_186.out; obtain ⟨-, -, hs14, -, -, hfs14⟩ := bE3 BK187.out; have := NB186_187.out; have := NB187_186.out; refine skip_ (w1 := ?_) (by rfl) rfl ?_ ?_; rotate_left
  ·go_simp
   rfl
  refine hK.out _ _ (cH hHeld) (fun hHeld => ?_); clear hK K; refine done_ (done_of HT_.out (by kernel_rfl)) ?_; (try go_wp2); refine bodyPost_ret (results_cell_row rfl _ _ gb187 32 #[.int .u64 t189, .int .u64 t190, .int .u64 (IntKind.u64.wrap (a0_0))] (0, 0) _ rfl (bZ BK187) Try.underlying32 rfl (by kernel_rfl)) rfl ?_
  exact ⟨eE, lB HB⟩
 ·replace c3 := Bool.eq_false_iff.mpr c3
  subst c3
  have H1 : (some (0, 0, 0)) = some (r1, r2, r3) := by rw [if_neg (show ¬ (false = true) by decide)] at H; exact H
  clear H; have H := H1; clear H1; simp only [Option.some.injEq, Prod.mk.injEq] at H; obtain ⟨rfl, rfl, rfl⟩ := H; go_enter Try.func94, Try.ntmps94
  go_wp2_with (first | ((with_reducible refine gate_dst (N := 1) rfl ?_); refine bxF w HB 1 #[.int .i64 a0_0, .int .i64 a0_1, .int .i64 a0_2] 54 ?_; intro gb186 hg w15 hb BK186 HB GE186; have GW186 := GE186; clear hb hg) | ((with_reducible refine gate_dst (N := 2) rfl ?_); refine bxF w HB 2 #[.int .u64 0, .int .u64 0, .int .u64 0] 32 ?_; intro gb187 hg w16 hb BK187 HB GE187; have GW187 := GE187; obtain ⟨NB186_187, NB187_186⟩ := nS hg BK186; replace BK186 := bY hb BK186; clear hb hg; have := NB186_187.out; have := NB187_186.out; obtain ⟨_, _, _, _, _, _⟩ := bE3 BK186.out) | ((with_reducible refine gate_callee (f := 97) rfl ?_); refine gL (some 4) Try.func97 #[.agg #[.int .i64 a0_0, .int .i64 a0_1, .int .i64 a0_2]] ?_; (with_reducible refine (spread_there.calls k a0_0 a0_1 a0_2 false _ A2.out).mono ?_); rintro e w19 ⟨rfl, hb⟩; refine ⟨_, rfl, ?_⟩; replace BK186 := bY hb BK186; replace BK187 := bY hb BK187; replace HB := aaM (lP (lB HB) hb); (try clear hb); (try clear hb2); (try clear hk); (try clear hi); obtain ⟨_, _, _, _, _, _⟩ := bE3 BK187.out))
  refine bodyPost_ret (results_cell_row rfl _ _ gb187 32 #[.int .u64 0, .int .u64 0, .int .u64 0] (0, 0) _ rfl (bZ BK187) Try.underlying32 rfl (by kernel_rfl)) rfl ?_
  exact ⟨eE, lB HB⟩

/-! ### split_means_alone: function 91 -/
def split_means_alone.f (k : Nat) (a0_0 : Int) (a0_1 : Int) (a0_2 : Int) : Option (Int × Int × Int) := (spread_Alone.f k a0_0 a0_1 a0_2).bind fun bt193 => (some (bt193.1, bt193.2.1, bt193.2.2))
theorem split_means_alone.mono : ∀ a0 a1 a2 k, LeO (split_means_alone.f k a0 a1 a2) (split_means_alone.f (k + 1) a0 a1 a2) := by
 intro a0 a1 a2 k
 unfold split_means_alone.f
 repeat' first
   | (with_reducible exact spread_Alone.mono _ _ _ _)
   | (with_reducible exact LeO.refl _)
   | (with_reducible exact LeO.none _)
   | (with_reducible refine LeO.ite ?_ ?_)
   | (with_reducible refine LeO.bind ?_ (fun _ => ?_))
   | exact spread_Alone.mono _ _ _ _
   | exact LeO.none _
   | refine LeO.ite ?_ ?_
   | refine LeO.bind ?_ (fun _ => ?_)
set_option maxHeartbeats 8000000 in
set_option maxRecDepth 100000 in
theorem split_means_alone.calls (k : Nat) (a0_0 : Int) (a0_1 : Int) (a0_2 : Int) (r1 : Int) (r2 : Int) (r3 : Int) (w : World) (h : split_means_alone.f k a0_0 a0_1 a0_2 = some (r1, r2, r3)) :
  Calls Try.prog 91 #[.agg #[.int .i64 a0_0, .int .i64 a0_1, .int .i64 a0_2]] w fun e w' => e = .returned (.agg #[.int .u64 r1, .int .u64 r2, .int .u64 r3]) ∧ Below w.heap.size w w' := by
 have hu83 := Try.underlying83
 have hu32 := Try.underlying32
 have hu54 := Try.underlying54
 have HB := aaM (Below.refl w.heap.size w)
 have H : ((spread_Alone.f k a0_0 a0_1 a0_2).bind fun bt193 => (some (bt193.1, bt193.2.1, bt193.2.2))) = some (r1, r2, r3) := h
 clear h
 replace H := ooB.mp H
 obtain ⟨⟨t193, t194, t195⟩, A20, H⟩ := H
 replace H : (some (t193, t194, t195)) = some (r1, r2, r3) := H
 have A2 := aaM A20
 clear A20
 simp only [Option.some.injEq, Prod.mk.injEq] at H
 obtain ⟨rfl, rfl, rfl⟩ := H
 go_enter Try.func91, Try.ntmps91
 go_wp2_with (first | ((with_reducible refine gate_dst (N := 1) rfl ?_); refine bxF w HB 1 #[.int .i64 a0_0, .int .i64 a0_1, .int .i64 a0_2] 83 ?_; intro gb191 hg w3 hb BK191 HB GE191; have GW191 := GE191; clear hb hg) | ((with_reducible refine gate_dst (N := 2) rfl ?_); refine bxF w HB 2 #[.int .u64 0, .int .u64 0, .int .u64 0] 32 ?_; intro gb192 hg w4 hb BK192 HB GE192; have GW192 := GE192; obtain ⟨NB191_192, NB192_191⟩ := nS hg BK191; replace BK191 := bY hb BK191; clear hb hg; have := NB191_192.out; have := NB192_191.out; obtain ⟨_, _, _, _, _, _⟩ := bE3 BK191.out) | ((with_reducible refine gate_callee (f := 94) rfl ?_); refine gL (some 5) Try.func94 #[.agg #[.int .i64 a0_0, .int .i64 a0_1, .int .i64 a0_2]] ?_; (with_reducible refine (spread_Alone.calls k a0_0 a0_1 a0_2 t193 t194 t195 _ A2.out).mono ?_); rintro e w7 ⟨rfl, hb⟩; refine ⟨_, rfl, ?_⟩; replace BK191 := bY hb BK191; replace BK192 := bY hb BK192; replace HB := aaM (lP (lB HB) hb); (try clear hb); (try clear hb2); (try clear hk); (try clear hi); obtain ⟨_, _, _, _, _, _⟩ := bE3 BK192.out))
 refine bodyPost_ret (results_cell_row rfl _ _ gb192 32 #[.int .u64 t193, .int .u64 t194, .int .u64 t195] (0, 0) _ rfl (bZ BK192) Try.underlying32 rfl (by kernel_rfl)) rfl ?_
 exact ⟨eE, lB HB⟩

/-! ### prod_Times: function 38 -/
def prod_Times.f (a0_0 : Int) (a0_1 : Int) (a1 : Int) : Option (Int × Int × Int) := (bits_Mul64.f a0_1 a1).bind fun bt198 => ((bits_Mul64.f a0_0 a1).bind fun bt200 => ((bits_Add64.f bt198.1 bt200.2 0).bind fun bt202 => (some (IntKind.u64.wrap (bt200.1 + bt202.2), bt202.1, bt198.2))))
set_option maxHeartbeats 8000000 in
set_option maxRecDepth 100000 in
theorem prod_Times.calls (a0_0 : Int) (a0_1 : Int) (a1 : Int) (r1 : Int) (r2 : Int) (r3 : Int) (w : World) (h : prod_Times.f a0_0 a0_1 a1 = some (r1, r2, r3)) :
  Calls Try.prog 38 #[.agg #[.int .u64 a0_0, .int .u64 a0_1], .int .u64 a1] w fun e w' => e = .returned (.agg #[.int .u64 r1, .int .u64 r2, .int .u64 r3]) ∧ Below w.heap.size w w' := by
 have hu30 := Try.underlying30
 have hu87 := Try.underlying87
 have HB := aaM (Below.refl w.heap.size w)
 have H : ((bits_Mul64.f a0_1 a1).bind fun bt198 => ((bits_Mul64.f a0_0 a1).bind fun bt200 => ((bits_Add64.f bt198.1 bt200.2 0).bind fun bt202 => (some (IntKind.u64.wrap (bt200.1 + bt202.2), bt202.1, bt198.2))))) = some (r1, r2, r3) := h
 clear h
 replace H := ooB.mp H
 obtain ⟨⟨t198, t199⟩, A30, H⟩ := H
 replace H : ((bits_Mul64.f a0_0 a1).bind fun bt200 => ((bits_Add64.f t198 bt200.2 0).bind fun bt202 => (some (IntKind.u64.wrap (bt200.1 + bt202.2), bt202.1, t199)))) = some (r1, r2, r3) := H
 have A3 := aaM A30
 clear A30
 replace H := ooB.mp H
 obtain ⟨⟨t200, t201⟩, A40, H⟩ := H
 replace H : ((bits_Add64.f t198 t201 0).bind fun bt202 => (some (IntKind.u64.wrap (t200 + bt202.2), bt202.1, t199))) = some (r1, r2, r3) := H
 have A4 := aaM A40
 clear A40
 replace H := ooB.mp H
 obtain ⟨⟨t202, t203⟩, A50, H⟩ := H
 replace H : (some (IntKind.u64.wrap (t200 + t203), t202, t199)) = some (r1, r2, r3) := H
 have A5 := aaM A50
 clear A50
 simp only [Option.some.injEq, Prod.mk.injEq] at H
 obtain ⟨rfl, rfl, rfl⟩ := H
 go_enter Try.func38, Try.ntmps38
 go_wp2_with (first | ((with_reducible refine gate_dst (N := 2) rfl ?_); refine bxF w HB 2 #[.int .u64 a0_0, .int .u64 a0_1] 30 ?_; intro gb196 hg w6 hb BK196 HB GE196; have GW196 := GE196; clear hb hg) | ((with_reducible refine gate_dst (N := 4) rfl ?_); refine bxF w HB 4 #[.int .u64 0, .int .u64 0, .int .u64 0] 87 ?_; intro gb197 hg w7 hb BK197 HB GE197; have GW197 := GE197; obtain ⟨NB196_197, NB197_196⟩ := nS hg BK196; replace BK196 := bY hb BK196; clear hb hg; have := NB196_197.out; have := NB197_196.out; obtain ⟨_, _, _, _⟩ := bE2 BK196.out) | ((with_reducible refine gate_callee (f := 53) rfl ?_); refine gL (some 14) Try.func53 #[.int .u64 a0_1, .int .u64 a1] ?_; (with_reducible refine (bits_Mul64.calls a0_1 a1 t198 t199 _ A3.out).mono ?_); rintro e w' ⟨rfl, ⟨nd, rfl⟩⟩; refine ⟨_, rfl, ?_⟩; (try (rw [drewN_self w7]; generalize hq_ : World.drewN w7 _ = w7; have n0_ : Aside0 (w7.heap[gb196]? = some (.cells #[.int .u64 a0_0, .int .u64 a0_1] 30 (0, 0))) := ⟨by rw [← hq_]; exact (bZ BK196)⟩; have n1_ : Aside0 (w7.heap[gb197]? = some (.cells #[.int .u64 0, .int .u64 0, .int .u64 0] 87 (0, 0))) := ⟨by rw [← hq_]; exact (bZ BK197)⟩; have n2_ : Aside0 (Below w.heap.size w w7) := ⟨by rw [← hq_]; exact (lB HB)⟩; clear BK196 BK197 HB hq_; have BK196 := n0_; have BK197 := n1_; have HB := n2_; clear n0_ n1_ n2_; obtain ⟨hcy196_0, hcy196_1, hfy196_0, hfy196_1⟩ := bE2 BK196.out; obtain ⟨hcy197_0, hcy197_1, hcy197_2, hfy197_0, hfy197_1, hfy197_2⟩ := bE3 BK197.out))) | ((with_reducible refine gate_callee (f := 53) rfl ?_); refine gL (some 21) Try.func53 #[.int .u64 a0_0, .int .u64 a1] ?_; (with_reducible refine (bits_Mul64.calls a0_0 a1 t200 t201 _ A4.out).mono ?_); rintro e w' ⟨rfl, ⟨nd, rfl⟩⟩; refine ⟨_, rfl, ?_⟩; (try (rw [drewN_self w7]; generalize hq_ : World.drewN w7 _ = w7; have n0_ : Aside0 (w7.heap[gb196]? = some (.cells #[.int .u64 a0_0, .int .u64 a0_1] 30 (0, 0))) := ⟨by rw [← hq_]; exact (bZ BK196)⟩; have n1_ : Aside0 (w7.heap[gb197]? = some (.cells #[.int .u64 0, .int .u64 0, .int .u64 0] 87 (0, 0))) := ⟨by rw [← hq_]; exact (bZ BK197)⟩; have n2_ : Aside0 (Below w.heap.size w w7) := ⟨by rw [← hq_]; exact (lB HB)⟩; clear BK196 BK197 HB hq_; have BK196 := n0_; have BK197 := n1_; have HB := n2_; clear n0_ n1_ n2_; obtain ⟨hcy196_0, hcy196_1, hfy196_0, hfy196_1⟩ := bE2 BK196.out; obtain ⟨hcy197_0, hcy197_1, hcy197_2, hfy197_0, hfy197_1, hfy197_2⟩ := bE3 BK197.out))) | ((with_reducible refine gate_callee (f := 54) rfl ?_); refine goesX_ (some 27) rfl rfl #[.int .u64 t198, .int .u64 t201, .int .u64 0] rfl mG ?_; (with_reducible refine (bits_Add64.calls t198 t201 0 t202 t203 _ A5.out).mono ?_); rintro e w' ⟨rfl, ⟨nd, rfl⟩⟩; refine ⟨_, rfl, ?_⟩; (try (rw [drewN_self w7]; generalize hq_ : World.drewN w7 _ = w7; have n0_ : Aside0 (w7.heap[gb196]? = some (.cells #[.int .u64 a0_0, .int .u64 a0_1] 30 (0, 0))) := ⟨by rw [← hq_]; exact (bZ BK196)⟩; have n1_ : Aside0 (w7.heap[gb197]? = some (.cells #[.int .u64 0, .int .u64 0, .int .u64 0] 87 (0, 0))) := ⟨by rw [← hq_]; exact (bZ BK197)⟩; have n2_ : Aside0 (Below w.heap.size w w7) := ⟨by rw [← hq_]; exact (lB HB)⟩; clear BK196 BK197 HB hq_; have BK196 := n0_; have BK197 := n1_; have HB := n2_; clear n0_ n1_ n2_; obtain ⟨hcy196_0, hcy196_1, hfy196_0, hfy196_1⟩ := bE2 BK196.out; obtain ⟨hcy197_0, hcy197_1, hcy197_2, hfy197_0, hfy197_1, hfy197_2⟩ := bE3 BK197.out)); obtain ⟨_, _, _, _, _, _⟩ := bE3 BK197.out))
 refine bodyPost_ret (results_cell_row rfl _ _ gb197 87 #[.int .u64 (IntKind.u64.wrap (t200 + t203)), .int .u64 t202, .int .u64 t199] (0, 0) _ rfl (bZ BK197) Try.underlying87 rfl (by kernel_rfl)) rfl ?_
 exact ⟨eE, lB HB⟩

/-! ### spread_side: function 99 -/
def spread_side.f (a0_0 : Int) (a0_1 : Int) (a0_2 : Int) (a1_0 : Int) (a1_1 : Int) (a1_2 : Int) : Option (Int × Int) := (prod_Square.f a0_1).bind fun bt207 => ((prod_Times.f bt207.1 bt207.2 (IntKind.u64.wrap (a1_0))).bind fun bt209 => (some (bt209.2.1, bt209.2.2)))
def spread_side.T1 : Bool × List (List Nat × List Nat) := (true, [([], []), ([0], [0]), ([1], [1]), ([], []), ([3], [3]), ([4], [4]), ([2, 5, 2], [2, 5]), ([], []), ([7, 6, 6, 0, 1, 2, 3, 4, 5, 6, 7], [6, 7])])
def spread_side.B1 : List Nat := [0, 1, 3, 0, 8, 24, 63, 0, 255]
theorem spread_side.tab1 : rtab .any (opsOf Try.f99 1) = spread_side.T1 := by kernel_rfl
theorem spread_side.bits1 : waitsOk spread_side.T1.2 spread_side.B1 = true := by kernel_rfl
set_option maxHeartbeats 8000000 in
set_option maxRecDepth 100000 in
theorem spread_side.calls (a0_0 : Int) (a0_1 : Int) (a0_2 : Int) (a1_0 : Int) (a1_1 : Int) (a1_2 : Int) (r1 : Int) (r2 : Int) (w : World) (h : spread_side.f a0_0 a0_1 a0_2 a1_0 a1_1 a1_2 = some (r1, r2)) :
  Calls Try.prog 99 #[.agg #[.int .i64 a0_0, .int .i64 a0_1, .int .i64 a0_2], .agg #[.int .i64 a1_0, .int .i64 a1_1, .int .i64 a1_2]] w fun e w' => e = .returned (.agg #[.int .u64 r1, .int .u64 r2]) ∧ Below w.heap.size w w' := by
 have hu54 := Try.underlying54
 have hu30 := Try.underlying30
 have hu87 := Try.underlying87
 have HB := aaM (Below.refl w.heap.size w)
 have H : ((prod_Square.f a0_1).bind fun bt207 => ((prod_Times.f bt207.1 bt207.2 (IntKind.u64.wrap (a1_0))).bind fun bt209 => (some (bt209.2.1, bt209.2.2)))) = some (r1, r2) := h
 clear h
 replace H := ooB.mp H
 obtain ⟨⟨t207, t208⟩, A30, H⟩ := H
 replace H : ((prod_Times.f t207 t208 (IntKind.u64.wrap (a1_0))).bind fun bt209 => (some (bt209.2.1, bt209.2.2))) = some (r1, r2) := H
 have A3 := aaM A30
 clear A30
 replace H := ooB.mp H
 obtain ⟨⟨t209, t210, t211⟩, A40, H⟩ := H
 replace H : (some (t210, t211)) = some (r1, r2) := H
 have A4 := aaM A40
 clear A40
 simp only [Option.some.injEq, Prod.mk.injEq] at H
 obtain ⟨rfl, rfl⟩ := H
 go_enter Try.func99, Try.ntmps99
 try go_wp2_with (first | ((with_reducible refine gate_dst (N := 2) rfl ?_); refine bxF w HB 2 #[.int .i64 a0_0, .int .i64 a0_1, .int .i64 a0_2] 54 ?_; intro gb204 hg w5 hb BK204 HB GE204; have GW204 := GE204; clear hb hg) | ((with_reducible refine gate_dst (N := 3) rfl ?_); refine bxF w HB 3 #[.int .i64 a1_0, .int .i64 a1_1, .int .i64 a1_2] 54 ?_; intro gb205 hg w6 hb BK205 HB GE205; have GW205 := GE205; obtain ⟨NB204_205, NB205_204⟩ := nS hg BK204; replace BK204 := bY hb BK204; clear hb hg) | ((with_reducible refine gate_dst (N := 4) rfl ?_); refine bxF w HB 4 #[.int .u64 0, .int .u64 0] 30 ?_; intro gb206 hg w7 hb BK206 HB GE206; have GW206 := GE206; obtain ⟨NB204_206, NB206_204⟩ := nS hg BK204; replace BK204 := bY hb BK204; obtain ⟨NB205_206, NB206_205⟩ := nS hg BK205; replace BK205 := bY hb BK205; clear hb hg))
 replace BK204 := aaM (bD BK204.out)
 replace BK205 := aaM (bD BK205.out)
 replace BK206 := aaM (bD BK206.out)
 replace HB := aaM (lD HB.out)
 refine start_ (n := 9) (S := fun w' => w'.cell? ⟨gb204, 0, none⟩ = some (.int .i64 a0_0) ∧ w'.cell? ⟨gb204, 1, none⟩ = some (.int .i64 a0_1) ∧ w'.cell? ⟨gb204, 2, none⟩ = some (.int .i64 a0_2) ∧ w'.cell? ⟨gb205, 0, none⟩ = some (.int .i64 a1_0) ∧ w'.cell? ⟨gb205, 1, none⟩ = some (.int .i64 a1_1) ∧ w'.cell? ⟨gb205, 2, none⟩ = some (.int .i64 a1_2)) (ds := []) _ (by kernel_rfl) rfl rfl hD (fun hHeld => ?_); refine with_tabW spread_side.tab1 spread_side.bits1 (fun HT_ HW_ => ?_)
 generalize w7.drew = w8 at BK204 BK205 BK206 HB hHeld ⊢
 refine pU 0 6 (qB 9 1) HT_ ?_
 refine pU 3 9 (qB 9 9) HT_ ?_
 refine tU 1 7 (qB 9 11) HT_ HW_ hHeld ?_
 refine tU 4 10 (qB 9 27) HT_ HW_ hHeld ?_
 refine pU 5 11 (qB 9 59) HT_ ?_
 refine join_ (σ := Nat) 1 (qB 9 255) (fun s_ => [(8, .agg #[.int .u64 t207, .int .u64 t208]), (12, .agg #[.int .u64 t209, .int .u64 t210, .int .u64 t211]), (5, .pointer (some ⟨s_, 0, none⟩))]) (fun s_ w' => (w'.cell? ⟨gb204, 0, none⟩ = some (.int .i64 a0_0) ∧ w'.cell? ⟨gb204, 1, none⟩ = some (.int .i64 a0_1) ∧ w'.cell? ⟨gb204, 2, none⟩ = some (.int .i64 a0_2) ∧ w'.cell? ⟨gb205, 0, none⟩ = some (.int .i64 a1_0) ∧ w'.cell? ⟨gb205, 1, none⟩ = some (.int .i64 a1_1) ∧ w'.cell? ⟨gb205, 2, none⟩ = some (.int .i64 a1_2)) ∧ (w'.heap[gb204]? = some (.cells #[.int .i64 a0_0, .int .i64 a0_1, .int .i64 a0_2] 54 (0, 0))) ∧ (w'.heap[gb205]? = some (.cells #[.int .i64 a1_0, .int .i64 a1_1, .int .i64 a1_2] 54 (0, 0))) ∧ (w'.heap[gb206]? = some (.cells #[.int .u64 0, .int .u64 0] 30 (0, 0))) ∧ (w'.heap[s_]? = some (.cells #[.int .u64 0, .int .u64 0, .int .u64 0] 87 (0, 0))) ∧ (w.heap.size ≤ s_) ∧ (w.heap.size ≤ s_) ∧ (gb204 ≠ s_) ∧ (s_ ≠ gb204) ∧ (gb205 ≠ s_) ∧ (s_ ≠ gb205) ∧ (gb206 ≠ s_) ∧ (s_ ≠ gb206) ∧ (Below w.heap.size w w')) ?_ ?_
 rotate_left
 ·intro hCont
  refine two_ (i := 2) (j := 7) (Ni := some 8) (Nj := some 5) (qB 9 63) (qB 9 187) rfl rfl rfl rfl (two_of HT_.out (by kernel_rfl)) (by decide) (by decide) (fun K hK => ?_) (fun K hK => ?_)
  ·skip
   refine gU Try.func98 #[.int .i64 a0_1] ?_; (with_reducible refine (prod_Square.calls a0_1 t207 t208 _ A3.out).mono ?_); rintro e w9 ⟨rfl, hb⟩; refine ⟨_, rfl, ?_⟩; replace BK204 := bY hb BK204; replace BK205 := bY hb BK205; replace BK206 := bY hb BK206; replace HB := aaM (lP (lB HB) hb); (try clear hb); (try clear hb2); (try clear hk); (try clear hi); refine hK.out _ _ hD (fun hHeld => ?_); clear hK K; refine nU 8 ?_
   refine two_ (i := 6) (j := 7) (Ni := some 12) (Nj := some 5) (qB 9 127) (qB 9 191) rfl rfl rfl rfl (two_of HT_.out (by kernel_rfl)) (by decide) (by decide) (fun K hK => ?_) (fun K hK => ?_)
   ·skip
    refine gU Try.func38 #[.agg #[.int .u64 t207, .int .u64 t208], .int .u64 (IntKind.u64.wrap (a1_0))] ?_; (with_reducible refine (prod_Times.calls t207 t208 (IntKind.u64.wrap (a1_0)) t209 t210 t211 _ A4.out).mono ?_); rintro e w10 ⟨rfl, hb⟩; refine ⟨_, rfl, ?_⟩; replace BK204 := bY hb BK204; replace BK205 := bY hb BK205; replace BK206 := bY hb BK206; replace HB := aaM (lP (lB HB) hb); (try clear hb); (try clear hb2); (try clear hk); (try clear hi); refine hK.out _ _ hD (fun hHeld => ?_); clear hK K; refine nU 12 ?_
    refine oU 7 (some 5) (qB 9 255) HT_ (fun K hK => ?_); refine box_step ?hg (N := 5) ?hd (cs := #[.int .u64 0, .int .u64 0, .int .u64 0]) (t := 87) ?hr ?_; (case hd => rfl); (case hg => rfl); (case hr => first | (go_simp; done) | (go_simp; rfl)); intro gb212 hg w11 hbox hb; have hP_ := lQ (lB HB) hb; replace HB := aaM hP_.1; have BK212 := aaM (hbox); have GW212 := aaM (gQ hg hP_.2); have GE212 := aaM (gQ hg hP_.2); obtain ⟨NB204_212, NB212_204⟩ := nS hg BK204; replace BK204 := bY hb BK204; obtain ⟨NB205_212, NB212_205⟩ := nS hg BK205; replace BK205 := bY hb BK205; obtain ⟨NB206_212, NB212_206⟩ := nS hg BK206; replace BK206 := bY hb BK206; clear hb hbox hg hP_; refine hK.out _ _ hD (fun hHeld => ?_); clear hK K; refine nU 5 ?_
    exact norm_ (by simp only [putAll, Act.put, ssB, ssZ, ssS]) (hCont (gb212) _ ⟨hHeld, (bZ BK204), (bZ BK205), (bZ BK206), (bZ BK212), GW212.out, GE212.out, NB204_212.out, NB212_204.out, NB205_212.out, NB212_205.out, NB206_212.out, NB212_206.out, (lB HB)⟩)
   ·skip
    refine box_step ?hg (N := 5) ?hd (cs := #[.int .u64 0, .int .u64 0, .int .u64 0]) (t := 87) ?hr ?_; (case hd => rfl); (case hg => rfl); (case hr => first | (go_simp; done) | (go_simp; rfl)); intro gb212 hg w10 hbox hb; have hP_ := lQ (lB HB) hb; replace HB := aaM hP_.1; have BK212 := aaM (hbox); have GW212 := aaM (gQ hg hP_.2); have GE212 := aaM (gQ hg hP_.2); obtain ⟨NB204_212, NB212_204⟩ := nS hg BK204; replace BK204 := bY hb BK204; obtain ⟨NB205_212, NB212_205⟩ := nS hg BK205; replace BK205 := bY hb BK205; obtain ⟨NB206_212, NB212_206⟩ := nS hg BK206; replace BK206 := bY hb BK206; clear hb hbox hg hP_; refine hK.out _ _ hD (fun hHeld => ?_); clear hK K; refine nU 5 ?_
    refine oU 6 (some 12) (qB 9 255) HT_ (fun K hK => ?_); refine gU Try.func38 #[.agg #[.int .u64 t207, .int .u64 t208], .int .u64 (IntKind.u64.wrap (a1_0))] ?_; (with_reducible refine (prod_Times.calls t207 t208 (IntKind.u64.wrap (a1_0)) t209 t210 t211 _ A4.out).mono ?_); rintro e w11 ⟨rfl, hb⟩; refine ⟨_, rfl, ?_⟩; replace BK204 := bY hb BK204; replace BK205 := bY hb BK205; replace BK206 := bY hb BK206; replace BK212 := bY hb BK212; replace HB := aaM (lP (lB HB) hb); (try clear hb); (try clear hb2); (try clear hk); (try clear hi); refine hK.out _ _ hD (fun hHeld => ?_); clear hK K; refine nU 12 ?_
    exact norm_ (by simp only [putAll, Act.put, ssB, ssZ, ssS]) (hCont (gb212) _ ⟨hHeld, (bZ BK204), (bZ BK205), (bZ BK206), (bZ BK212), GW212.out, GE212.out, NB204_212.out, NB212_204.out, NB205_212.out, NB212_205.out, NB206_212.out, NB212_206.out, (lB HB)⟩)
  ·skip
   refine box_step ?hg (N := 5) ?hd (cs := #[.int .u64 0, .int .u64 0, .int .u64 0]) (t := 87) ?hr ?_; (case hd => rfl); (case hg => rfl); (case hr => first | (go_simp; done) | (go_simp; rfl)); intro gb212 hg w9 hbox hb; have hP_ := lQ (lB HB) hb; replace HB := aaM hP_.1; have BK212 := aaM (hbox); have GW212 := aaM (gQ hg hP_.2); have GE212 := aaM (gQ hg hP_.2); obtain ⟨NB204_212, NB212_204⟩ := nS hg BK204; replace BK204 := bY hb BK204; obtain ⟨NB205_212, NB212_205⟩ := nS hg BK205; replace BK205 := bY hb BK205; obtain ⟨NB206_212, NB212_206⟩ := nS hg BK206; replace BK206 := bY hb BK206; clear hb hbox hg hP_; refine hK.out _ _ hD (fun hHeld => ?_); clear hK K; refine nU 5 ?_
   refine oU 2 (some 8) (qB 9 191) HT_ (fun K hK => ?_); refine gU Try.func98 #[.int .i64 a0_1] ?_; (with_reducible refine (prod_Square.calls a0_1 t207 t208 _ A3.out).mono ?_); rintro e w10 ⟨rfl, hb⟩; refine ⟨_, rfl, ?_⟩; replace BK204 := bY hb BK204; replace BK205 := bY hb BK205; replace BK206 := bY hb BK206; replace BK212 := bY hb BK212; replace HB := aaM (lP (lB HB) hb); (try clear hb); (try clear hb2); (try clear hk); (try clear hi); refine hK.out _ _ hD (fun hHeld => ?_); clear hK K; refine nU 8 ?_
   refine oU 6 (some 12) (qB 9 255) HT_ (fun K hK => ?_); refine gU Try.func38 #[.agg #[.int .u64 t207, .int .u64 t208], .int .u64 (IntKind.u64.wrap (a1_0))] ?_; (with_reducible refine (prod_Times.calls t207 t208 (IntKind.u64.wrap (a1_0)) t209 t210 t211 _ A4.out).mono ?_); rintro e w11 ⟨rfl, hb⟩; refine ⟨_, rfl, ?_⟩; replace BK204 := bY hb BK204; replace BK205 := bY hb BK205; replace BK206 := bY hb BK206; replace BK212 := bY hb BK212; replace HB := aaM (lP (lB HB) hb); (try clear hb); (try clear hb2); (try clear hk); (try clear hi); refine hK.out _ _ hD (fun hHeld => ?_); clear hK K; refine nU 12 ?_
   exact norm_ (by simp only [putAll, Act.put, ssB, ssZ, ssS]) (hCont (gb212) _ ⟨hHeld, (bZ BK204), (bZ BK205), (bZ BK206), (bZ BK212), GW212.out, GE212.out, NB204_212.out, NB212_204.out, NB205_212.out, NB212_205.out, NB206_212.out, NB212_206.out, (lB HB)⟩)
 rintro gb212 w12 ⟨hS_, h0_, h1_, h2_, h3_, h4_, h5_, h6_, h7_, h8_, h9_, h10_, h11_, h12_⟩
 have n0_ : Aside0 (w12.heap[gb204]? = some (.cells #[.int .i64 a0_0, .int .i64 a0_1, .int .i64 a0_2] 54 (0, 0))) := ⟨h0_⟩
 have n1_ : Aside0 (w12.heap[gb205]? = some (.cells #[.int .i64 a1_0, .int .i64 a1_1, .int .i64 a1_2] 54 (0, 0))) := ⟨h1_⟩
 have n2_ : Aside0 (w12.heap[gb206]? = some (.cells #[.int .u64 0, .int .u64 0] 30 (0, 0))) := ⟨h2_⟩
 have n3_ : Aside0 (w12.heap[gb212]? = some (.cells #[.int .u64 0, .int .u64 0, .int .u64 0] 87 (0, 0))) := ⟨h3_⟩
 have n4_ : Aside0 (w.heap.size ≤ gb212) := ⟨h4_⟩
 have n5_ : Aside0 (w.heap.size ≤ gb212) := ⟨h5_⟩
 have n6_ : Aside0 (gb204 ≠ gb212) := ⟨h6_⟩
 have n7_ : Aside0 (gb212 ≠ gb204) := ⟨h7_⟩
 have n8_ : Aside0 (gb205 ≠ gb212) := ⟨h8_⟩
 have n9_ : Aside0 (gb212 ≠ gb205) := ⟨h9_⟩
 have n10_ : Aside0 (gb206 ≠ gb212) := ⟨h10_⟩
 have n11_ : Aside0 (gb212 ≠ gb206) := ⟨h11_⟩
 have n12_ : Aside0 (Below w.heap.size w w12) := ⟨h12_⟩
 clear BK204 BK205 BK206 HB h0_ h1_ h2_ h3_ h4_ h5_ h6_ h7_ h8_ h9_ h10_ h11_ h12_
 have BK204 := n0_
 have BK205 := n1_
 have BK206 := n2_
 have BK212 := n3_
 have GW212 := n4_
 have GE212 := n5_
 have NB204_212 := n6_
 have NB212_204 := n7_
 have NB205_212 := n8_
 have NB212_205 := n9_
 have NB206_212 := n10_
 have NB212_206 := n11_
 have HB := n12_
 clear n0_ n1_ n2_ n3_ n4_ n5_ n6_ n7_ n8_ n9_ n10_ n11_ n12_
 have hHeld : w12.cell? ⟨gb204, 0, none⟩ = some (.int .i64 a0_0) ∧ w12.cell? ⟨gb204, 1, none⟩ = some (.int .i64 a0_1) ∧ w12.cell? ⟨gb204, 2, none⟩ = some (.int .i64 a0_2) ∧ w12.cell? ⟨gb205, 0, none⟩ = some (.int .i64 a1_0) ∧ w12.cell? ⟨gb205, 1, none⟩ = some (.int .i64 a1_1) ∧ w12.cell? ⟨gb205, 2, none⟩ = some (.int .i64 a1_2) := hS_
 refine norm_ (a' := ?_) ?_ ?_
 rotate_left
 ·simp only [putAll, Act.put, ssB, ssZ, ssS]
  rfl
 refine oU 8 none (qB 9 511) HT_ (fun K hK => ?_)
 obtain ⟨hs13, -, -, hfs13, -, -⟩ := bE3 BK212.out
 have := NB204_212.out
 have := NB205_212.out
 have := NB206_212.out
 have := NB212_204.out
 have := NB212_205.out
 have := NB212_206.out
 obtain ⟨-, hs14, -, -, hfs14, -⟩ := bE3 BK212.out
 have := NB204_212.out
 have := NB205_212.out
 have := NB206_212.out
 have := NB212_204.out
 have := NB212_205.out
 have := NB212_206.out
 obtain ⟨-, -, hs15, -, -, hfs15⟩ := bE3 BK212.out
 have := NB204_212.out
 have := NB205_212.out
 have := NB206_212.out
 have := NB212_204.out
 have := NB212_205.out
 have := NB212_206.out
 refine skip_ (w1 := ?_) (by rfl) rfl ?_ ?_
 rotate_left
 ·go_simp
  rfl
 refine hK.out _ _ (cH hHeld) (fun hHeld => ?_)
 clear hK K
 refine done_ (done_of HT_.out (by kernel_rfl)) ?_
 have := NB212_204.out
 have := NB204_212.out
 have := NB212_205.out
 have := NB205_212.out
 have := NB212_206.out
 have := NB206_212.out
 obtain ⟨_, _, _, _, _, _⟩ := bE3 BK212.out
 have := NB206_204.out
 have := NB204_206.out
 have := NB206_205.out
 have := NB205_206.out
 obtain ⟨_, _, _, _⟩ := bE2 BK206.out
 try go_wp2
 refine bodyPost_ret (results_cell_row rfl _ _ gb206 30 #[.int .u64 t210, .int .u64 t211] (0, 0) _ rfl (bZ BK206) Try.underlying30 rfl (by kernel_rfl)) rfl ?_
 exact ⟨eE, lB HB⟩

/-! ### spread_Score: function 95 -/
def spread_Score.j0 : Nat → Bool → Int → Int → Int → Int → Int → Int → Option (Int × Int × Int)
 | 0, _, _, _, _, _, _, _ => none
 | k + 1, x14, x214000, x214001, x214002, x215000, x215001, x215002 => if x14 = true then (some (0, 0, 0)) else ((spread_side.f x214000 x214001 x214002 x215000 x215001 x215002).bind fun bt218 => ((spread_side.f x215000 x215001 x215002 x214000 x214001 x214002).bind fun bt220 => ((prod_Add.f bt218.1 bt218.2 bt220.1 bt220.2).bind fun bt222 => (some (bt222.1, bt222.2.1, IntKind.u64.wrap ((IntKind.u64.wrap (x214000)) * (IntKind.u64.wrap (x215000))))))))
def spread_Score.f (k : Nat) (a0_0 : Int) (a0_1 : Int) (a0_2 : Int) (a1_0 : Int) (a1_1 : Int) (a1_2 : Int) : Option (Int × Int × Int) := (spread_there.f k a0_0 a0_1 a0_2).bind fun t216 => (if t216 = true then ((spread_there.f k a1_0 a1_1 a1_2).bind fun t217 => (spread_Score.j0 k (!t217) a0_0 a0_1 a0_2 a1_0 a1_1 a1_2)) else (spread_Score.j0 k true a0_0 a0_1 a0_2 a1_0 a1_1 a1_2))
theorem spread_Score.mono_l : ∀ k, (∀ y0 y1 y2 y3 y4 y5 y6, LeO (spread_Score.j0 k y0 y1 y2 y3 y4 y5 y6) (spread_Score.j0 (k + 1) y0 y1 y2 y3 y4 y5 y6))
 | 0 => fun _ _ _ _ _ _ _ r h => by simp [spread_Score.j0] at h
 | k + 1 => by
  have ih0 := spread_Score.mono_l k
  ·intro y0 y1 y2 y3 y4 y5 y6
   unfold spread_Score.j0
   repeat' first
   | (with_reducible exact ih0 _ _ _ _ _ _ _)
   | (with_reducible exact spread_there.mono _ _ _ _)
   | (with_reducible exact LeO.refl _)
   | (with_reducible exact LeO.none _)
   | (with_reducible refine LeO.ite ?_ ?_)
   | (with_reducible refine LeO.bind ?_ (fun _ => ?_))
   | exact ih0 _ _ _ _ _ _ _
   | exact spread_there.mono _ _ _ _
   | exact LeO.none _
   | refine LeO.ite ?_ ?_
   | refine LeO.bind ?_ (fun _ => ?_)
theorem spread_Score.mono : ∀ a0 a1 a2 a3 a4 a5 k, LeO (spread_Score.f k a0 a1 a2 a3 a4 a5) (spread_Score.f (k + 1) a0 a1 a2 a3 a4 a5) := by
 intro a0 a1 a2 a3 a4 a5 k
 have ih0 := spread_Score.mono_l k
 unfold spread_Score.f
 repeat' first
   | (with_reducible exact ih0 _ _ _ _ _ _ _)
   | (with_reducible exact spread_there.mono _ _ _ _)
   | (with_reducible exact LeO.refl _)
   | (with_reducible exact LeO.none _)
   | (with_reducible refine LeO.ite ?_ ?_)
   | (with_reducible refine LeO.bind ?_ (fun _ => ?_))
   | exact ih0 _ _ _ _ _ _ _
   | exact spread_there.mono _ _ _ _
   | exact LeO.none _
   | refine LeO.ite ?_ ?_
   | refine LeO.bind ?_ (fun _ => ?_)
def spread_Score.T3 : Bool × List (List Nat × List Nat) := (true, [([], []), ([], []), ([0, 1], [0, 1]), ([], []), ([], []), ([3, 4, 2], [3, 4]), ([2, 5, 5], [2, 5]), ([6], [6]), ([7], [7]), ([7], [7]), ([], []), ([10, 8, 6, 0, 1, 2, 3, 4, 5, 6, 7, 8, 10], [8, 10]), ([9, 11, 0, 1, 2, 3, 4, 5, 6, 7, 8, 9, 10, 11], [9])])
def spread_Score.B3 : List Nat := [0, 0, 3, 0, 0, 31, 63, 127, 255, 255, 0, 1535, 4095]
theorem spread_Score.tab3 : rtab .any (opsOf Try.f95 3) = spread_Score.T3 := by kernel_rfl
theorem spread_Score.bits3 : waitsOk spread_Score.T3.2 spread_Score.B3 = true := by kernel_rfl
set_option maxHeartbeats 8000000 in
set_option maxRecDepth 100000 in
theorem spread_Score.calls (k : Nat) (a0_0 : Int) (a0_1 : Int) (a0_2 : Int) (a1_0 : Int) (a1_1 : Int) (a1_2 : Int) (r1 : Int) (r2 : Int) (r3 : Int) (w : World) (h : spread_Score.f k a0_0 a0_1 a0_2 a1_0 a1_1 a1_2 = some (r1, r2, r3)) :
  Calls Try.prog 95 #[.agg #[.int .i64 a0_0, .int .i64 a0_1, .int .i64 a0_2], .agg #[.int .i64 a1_0, .int .i64 a1_1, .int .i64 a1_2]] w fun e w' => e = .returned (.agg #[.int .u64 r1, .int .u64 r2, .int .u64 r3]) ∧ Below w.heap.size w w' := by
 have hu54 := Try.underlying54
 have hu32 := Try.underlying32
 have hu30 := Try.underlying30
 have HB := aaM (Below.refl w.heap.size w)
 have H : ((spread_there.f k a0_0 a0_1 a0_2).bind fun t216 => (if t216 = true then ((spread_there.f k a1_0 a1_1 a1_2).bind fun t217 => (spread_Score.j0 k (!t217) a0_0 a0_1 a0_2 a1_0 a1_1 a1_2)) else (spread_Score.j0 k true a0_0 a0_1 a0_2 a1_0 a1_1 a1_2))) = some (r1, r2, r3) := h
 clear h
 have HC3 := aaM H
 clear H
 go_enter Try.func95, Try.ntmps95
 go_upto_region 1 with (first | ((with_reducible refine gate_dst (N := 2) rfl ?_); refine bxF w HB 2 #[.int .i64 a0_0, .int .i64 a0_1, .int .i64 a0_2] 54 ?_; intro gb213 hg w4 hb BK213 HB GE213; have GW213 := GE213; clear hb hg) | ((with_reducible refine gate_dst (N := 3) rfl ?_); refine bxF w HB 3 #[.int .i64 a1_0, .int .i64 a1_1, .int .i64 a1_2] 54 ?_; intro gb214 hg w5 hb BK214 HB GE214; have GW214 := GE214; obtain ⟨NB213_214, NB214_213⟩ := nS hg BK213; replace BK213 := bY hb BK213; clear hb hg) | ((with_reducible refine gate_dst (N := 4) rfl ?_); refine bxF w HB 4 #[.int .u64 0, .int .u64 0, .int .u64 0] 32 ?_; intro gb215 hg w6 hb BK215 HB GE215; have GW215 := GE215; obtain ⟨NB213_215, NB215_213⟩ := nS hg BK213; replace BK213 := bY hb BK213; obtain ⟨NB214_215, NB215_214⟩ := nS hg BK214; replace BK214 := bY hb BK214; clear hb hg))
 (try simp only [Act.put, ssB, ssZ, ssS])
 go_cut [14] (fun v14 wc => ∃ (kq : Nat) (x14_2 : Bool), v14 = .bool x14_2 ∧ Aside0 (spread_Score.j0 kq x14_2 a0_0 a0_1 a0_2 a1_0 a1_1 a1_2 = some (r1, r2, r3)) ∧ Aside0 (kq ≤ k) ∧ Aside0 (wc.heap[gb213]? = some (.cells #[.int .i64 a0_0, .int .i64 a0_1, .int .i64 a0_2] 54 (0, 0))) ∧ Aside0 (wc.heap[gb214]? = some (.cells #[.int .i64 a1_0, .int .i64 a1_1, .int .i64 a1_2] 54 (0, 0))) ∧ Aside0 (wc.heap[gb215]? = some (.cells #[.int .u64 0, .int .u64 0, .int .u64 0] 32 (0, 0))) ∧ Aside0 (Below w.heap.size w wc))
 case first =>
  have H := HC3.out; clear HC3; replace H := ooB.mp H; obtain ⟨t216, A70, H⟩ := H; replace H : (if t216 = true then ((spread_there.f k a1_0 a1_1 a1_2).bind fun t217 => (spread_Score.j0 k (!t217) a0_0 a0_1 a0_2 a1_0 a1_1 a1_2)) else (spread_Score.j0 k true a0_0 a0_1 a0_2 a1_0 a1_1 a1_2)) = some (r1, r2, r3) := H; have A7 := aaM A70; clear A70
  by_cases c8 : t216 = true
  ·subst c8
   have H1 : ((spread_there.f k a1_0 a1_1 a1_2).bind fun t217 => (spread_Score.j0 k (!t217) a0_0 a0_1 a0_2 a1_0 a1_1 a1_2)) = some (r1, r2, r3) := by rw [if_pos rfl] at H; exact H
   clear H; have H := H1; clear H1; replace H := ooB.mp H; obtain ⟨t217, A90, H⟩ := H; replace H : (spread_Score.j0 k (!t217) a0_0 a0_1 a0_2 a1_0 a1_1 a1_2) = some (r1, r2, r3) := H; have A9 := aaM A90; clear A90; have H' := aaM H; clear H; have := NB213_214.out; have := NB214_213.out; have := NB213_215.out; have := NB215_213.out; obtain ⟨hcz12_0, hcz12_1, hcz12_2, hfz12_0, hfz12_1, hfz12_2⟩ := bE3 BK213.out
   go_wp2_with (first | ((with_reducible refine gate_callee (f := 97) rfl ?_); refine gL (some 8) Try.func97 #[.agg #[.int .i64 a0_0, .int .i64 a0_1, .int .i64 a0_2]] ?_; (with_reducible refine (spread_there.calls k a0_0 a0_1 a0_2 true _ A7.out).mono ?_); rintro e w13 ⟨rfl, hb⟩; refine ⟨_, rfl, ?_⟩; replace BK213 := bY hb BK213; replace BK214 := bY hb BK214; replace BK215 := bY hb BK215; replace HB := aaM (lP (lB HB) hb); (try clear hb); (try clear hb2); (try clear hk); (try clear hi); have := NB214_215.out; have := NB215_214.out; obtain ⟨hcz15_0, hcz15_1, hcz15_2, hfz15_0, hfz15_1, hfz15_2⟩ := bE3 BK214.out) | (go_at_call 97; (with_reducible refine (spread_there.calls k a1_0 a1_1 a1_2 t217 _ A9.out).mono ?_); rintro e w16 ⟨rfl, hb⟩; replace BK213 := bY hb BK213; replace BK214 := bY hb BK214; replace BK215 := bY hb BK215; replace HB := aaM (lP (lB HB) hb); (try clear hb); (try clear hb2); (try clear hk); (try clear hi)))
   go_meet
   case rel => exact ⟨_, (!t217), (eF), H', ⟨by first | omega | exact Nat.le_refl _⟩, ⟨bZ BK213⟩, ⟨bZ BK214⟩, ⟨bZ BK215⟩, ⟨lB HB⟩⟩
  ·replace c8 := Bool.eq_false_iff.mpr c8
   subst c8
   have H1 : (spread_Score.j0 k true a0_0 a0_1 a0_2 a1_0 a1_1 a1_2) = some (r1, r2, r3) := by rw [if_neg (show ¬ (false = true) by decide)] at H; exact H
   clear H; have H := H1; clear H1; have H' := aaM H; clear H; have := NB213_214.out; have := NB214_213.out; have := NB213_215.out; have := NB215_213.out; obtain ⟨hcz19_0, hcz19_1, hcz19_2, hfz19_0, hfz19_1, hfz19_2⟩ := bE3 BK213.out
   go_wp2_with (first | ((with_reducible refine gate_callee (f := 97) rfl ?_); refine gL (some 8) Try.func97 #[.agg #[.int .i64 a0_0, .int .i64 a0_1, .int .i64 a0_2]] ?_; (with_reducible refine (spread_there.calls k a0_0 a0_1 a0_2 false _ A7.out).mono ?_); rintro e w20 ⟨rfl, hb⟩; refine ⟨_, rfl, ?_⟩; replace BK213 := bY hb BK213; replace BK214 := bY hb BK214; replace BK215 := bY hb BK215; replace HB := aaM (lP (lB HB) hb); (try clear hb); (try clear hb2); (try clear hk); (try clear hi)))
   go_meet
   case rel => exact ⟨_, (true), (eF), H', ⟨by first | omega | exact Nat.le_refl _⟩, ⟨bZ BK213⟩, ⟨bZ BK214⟩, ⟨bZ BK215⟩, ⟨lB HB⟩⟩
 case rest =>
  clear HC3; (try clear c1); (try clear p2); (try clear c8); (try clear c9); (try clear c10); (try clear c11); (try clear c14); (try clear c17); (try clear c18); (try clear hcz12_0); (try clear hcz12_1); (try clear hcz12_2); (try clear hcz15_0); (try clear hcz15_1); (try clear hcz15_2); (try clear hcz19_0); (try clear hcz19_1); (try clear hcz19_2); (try clear hfz12_0); (try clear hfz12_1); (try clear hfz12_2); (try clear hfz15_0); (try clear hfz15_1); (try clear hfz15_2); (try clear hfz19_0); (try clear hfz19_1); (try clear hfz19_2); obtain ⟨kq, x14_2, rfl, HA, HJ2, BK213, BK214, BK215, HB⟩ := hcut
  cases kq with
  | zero => exact absurd HA.out (by simp [spread_Score.j0])
  | succ kj2 =>
   have H := HA.out; clear HA; simp only [spread_Score.j0] at H
   by_cases c21 : x14_2 = true
   ·subst c21
    have H1 : (some (0, 0, 0)) = some (r1, r2, r3) := by rw [if_pos rfl] at H; exact H
    clear H; have H := H1; clear H1; simp only [Option.some.injEq, Prod.mk.injEq] at H; obtain ⟨rfl, rfl, rfl⟩ := H; have := NB215_213.out; have := NB213_215.out; have := NB215_214.out; have := NB214_215.out; obtain ⟨_, _, _, _, _, _⟩ := bE3 BK215.out; go_wp2; refine bodyPost_ret (results_cell_row rfl _ _ gb215 32 #[.int .u64 0, .int .u64 0, .int .u64 0] (0, 0) _ rfl (bZ BK215) Try.underlying32 rfl (by kernel_rfl)) rfl ?_
    exact ⟨eE, lB HB⟩
   ·replace c21 := Bool.eq_false_iff.mpr c21
    subst c21
    have H1 : ((spread_side.f a0_0 a0_1 a0_2 a1_0 a1_1 a1_2).bind fun bt218 => ((spread_side.f a1_0 a1_1 a1_2 a0_0 a0_1 a0_2).bind fun bt220 => ((prod_Add.f bt218.1 bt218.2 bt220.1 bt220.2).bind fun bt222 => (some (bt222.1, bt222.2.1, IntKind.u64.wrap ((IntKind.u64.wrap (a0_0)) * (IntKind.u64.wrap (a1_0)))))))) = some (r1, r2, r3) := by rw [if_neg (show ¬ (false = true) by decide)] at H; exact H
    clear H; have H := H1; clear H1; replace H := ooB.mp H; obtain ⟨⟨t218, t219⟩, A250, H⟩ := H; replace H : ((spread_side.f a1_0 a1_1 a1_2 a0_0 a0_1 a0_2).bind fun bt220 => ((prod_Add.f t218 t219 bt220.1 bt220.2).bind fun bt222 => (some (bt222.1, bt222.2.1, IntKind.u64.wrap ((IntKind.u64.wrap (a0_0)) * (IntKind.u64.wrap (a1_0))))))) = some (r1, r2, r3) := H; have A25 := aaM A250; clear A250; replace H := ooB.mp H; obtain ⟨⟨t220, t221⟩, A260, H⟩ := H; replace H : ((prod_Add.f t218 t219 t220 t221).bind fun bt222 => (some (bt222.1, bt222.2.1, IntKind.u64.wrap ((IntKind.u64.wrap (a0_0)) * (IntKind.u64.wrap (a1_0)))))) = some (r1, r2, r3) := H; have A26 := aaM A260; clear A260; replace H := ooB.mp H; obtain ⟨⟨t222, t223, t224⟩, A270, H⟩ := H; replace H : (some (t222, t223, IntKind.u64.wrap ((IntKind.u64.wrap (a0_0)) * (IntKind.u64.wrap (a1_0))))) = some (r1, r2, r3) := H; have A27 := aaM A270; clear A270; simp only [Option.some.injEq, Prod.mk.injEq] at H; obtain ⟨rfl, rfl, rfl⟩ := H; (try go_wp2); replace BK213 := aaM (bD BK213.out); replace BK214 := aaM (bD BK214.out); replace BK215 := aaM (bD BK215.out); replace HB := aaM (lD HB.out); refine start_ (n := 13) (S := fun w' => w'.cell? ⟨gb213, 0, none⟩ = some (.int .i64 a0_0) ∧ w'.cell? ⟨gb213, 1, none⟩ = some (.int .i64 a0_1) ∧ w'.cell? ⟨gb213, 2, none⟩ = some (.int .i64 a0_2) ∧ w'.cell? ⟨gb214, 0, none⟩ = some (.int .i64 a1_0) ∧ w'.cell? ⟨gb214, 1, none⟩ = some (.int .i64 a1_1) ∧ w'.cell? ⟨gb214, 2, none⟩ = some (.int .i64 a1_2)) (ds := []) _ (by kernel_rfl) rfl rfl hD (fun hHeld => ?_); refine with_tabW spread_Score.tab3 spread_Score.bits3 (fun HT_ HW_ => ?_); generalize wc.drew = w28 at BK213 BK214 BK215 HB hHeld ⊢; refine tU 0 17 (qB 13 1) HT_ HW_ hHeld ?_
    refine tU 1 18 (qB 13 3) HT_ HW_ hHeld ?_
    refine tU 3 20 (qB 13 11) HT_ HW_ hHeld ?_
    refine tU 4 21 (qB 13 27) HT_ HW_ hHeld ?_
    refine join_ (σ := Nat) 2 (qB 13 2047) (fun s_ => [(19, .agg #[.int .u64 t218, .int .u64 t219]), (22, .agg #[.int .u64 t220, .int .u64 t221]), (23, .tuple #[.agg #[.int .u64 t222, .int .u64 t223], .int .i64 t224]), (5, .pointer (some ⟨s_, 0, none⟩)), (16, .tuple #[.agg #[.int .u64 t222, .int .u64 t223], .int .i64 t224]), (24, .agg #[.int .u64 t222, .int .u64 t223]), (25, .int .i64 t224)]) (fun s_ w' => (w'.cell? ⟨gb213, 0, none⟩ = some (.int .i64 a0_0) ∧ w'.cell? ⟨gb213, 1, none⟩ = some (.int .i64 a0_1) ∧ w'.cell? ⟨gb213, 2, none⟩ = some (.int .i64 a0_2) ∧ w'.cell? ⟨gb214, 0, none⟩ = some (.int .i64 a1_0) ∧ w'.cell? ⟨gb214, 1, none⟩ = some (.int .i64 a1_1) ∧ w'.cell? ⟨gb214, 2, none⟩ = some (.int .i64 a1_2)) ∧ (w'.heap[gb213]? = some (.cells #[.int .i64 a0_0, .int .i64 a0_1, .int .i64 a0_2] 54 (0, 0))) ∧ (w'.heap[gb214]? = some (.cells #[.int .i64 a1_0, .int .i64 a1_1, .int .i64 a1_2] 54 (0, 0))) ∧ (w'.heap[gb215]? = some (.cells #[.int .u64 0, .int .u64 0, .int .u64 0] 32 (0, 0))) ∧ (w'.heap[s_]? = some (.cells #[.int .u64 0, .int .u64 0] 30 (0, 0))) ∧ (w.heap.size ≤ s_) ∧ (w.heap.size ≤ s_) ∧ (gb213 ≠ s_) ∧ (s_ ≠ gb213) ∧ (gb214 ≠ s_) ∧ (s_ ≠ gb214) ∧ (gb215 ≠ s_) ∧ (s_ ≠ gb215) ∧ (Below w.heap.size w w')) ?_ ?_; rotate_left
    ·intro hCont
     refine two_ (i := 2) (j := 10) (Ni := some 19) (Nj := some 5) (qB 13 31) (qB 13 1051) rfl rfl rfl rfl (two_of HT_.out (by kernel_rfl)) (by decide) (by decide) (fun K hK => ?_) (fun K hK => ?_)
     ·skip
      refine gU Try.func99 #[.agg #[.int .i64 a0_0, .int .i64 a0_1, .int .i64 a0_2], .agg #[.int .i64 a1_0, .int .i64 a1_1, .int .i64 a1_2]] ?_; (with_reducible refine (spread_side.calls a0_0 a0_1 a0_2 a1_0 a1_1 a1_2 t218 t219 _ A25.out).mono ?_); rintro e w29 ⟨rfl, hb⟩; refine ⟨_, rfl, ?_⟩; replace BK213 := bY hb BK213; replace BK214 := bY hb BK214; replace BK215 := bY hb BK215; replace HB := aaM (lP (lB HB) hb); (try clear hb); (try clear hb2); (try clear hk); (try clear hi); refine hK.out _ _ hD (fun hHeld => ?_); clear hK K; refine nU 19 ?_
      refine two_ (i := 5) (j := 10) (Ni := some 22) (Nj := some 5) (qB 13 63) (qB 13 1055) rfl rfl rfl rfl (two_of HT_.out (by kernel_rfl)) (by decide) (by decide) (fun K hK => ?_) (fun K hK => ?_)
      ·skip
       refine gU Try.func99 #[.agg #[.int .i64 a1_0, .int .i64 a1_1, .int .i64 a1_2], .agg #[.int .i64 a0_0, .int .i64 a0_1, .int .i64 a0_2]] ?_; (with_reducible refine (spread_side.calls a1_0 a1_1 a1_2 a0_0 a0_1 a0_2 t220 t221 _ A26.out).mono ?_); rintro e w30 ⟨rfl, hb⟩; refine ⟨_, rfl, ?_⟩; replace BK213 := bY hb BK213; replace BK214 := bY hb BK214; replace BK215 := bY hb BK215; replace HB := aaM (lP (lB HB) hb); (try clear hb); (try clear hb2); (try clear hk); (try clear hi); refine hK.out _ _ hD (fun hHeld => ?_); clear hK K; refine nU 22 ?_
       refine two_ (i := 6) (j := 10) (Ni := some 23) (Nj := some 5) (qB 13 127) (qB 13 1087) rfl rfl rfl rfl (two_of HT_.out (by kernel_rfl)) (by decide) (by decide) (fun K hK => ?_) (fun K hK => ?_)
       ·skip
        refine gU Try.func86 #[.agg #[.int .u64 t218, .int .u64 t219], .agg #[.int .u64 t220, .int .u64 t221]] ?_; (with_reducible refine (prod_Add.calls t218 t219 t220 t221 t222 t223 t224 _ A27.out).mono ?_); rintro e w31 ⟨rfl, hb⟩; refine ⟨_, rfl, ?_⟩; replace BK213 := bY hb BK213; replace BK214 := bY hb BK214; replace BK215 := bY hb BK215; replace HB := aaM (lP (lB HB) hb); (try clear hb); (try clear hb2); (try clear hk); (try clear hi); refine hK.out _ _ hD (fun hHeld => ?_); clear hK K; refine nU 23 ?_
        refine pU 7 16 (qB 13 255) HT_ ?_
        refine pU 8 24 (qB 13 511) HT_ ?_
        refine pU 9 25 (qB 13 1023) HT_ ?_
        refine oU 10 (some 5) (qB 13 2047) HT_ (fun K hK => ?_); refine box_step ?hg (N := 5) ?hd (cs := #[.int .u64 0, .int .u64 0]) (t := 30) ?hr ?_; (case hd => rfl); (case hg => rfl); (case hr => first | (go_simp; done) | (go_simp; rfl)); intro gb225 hg w32 hbox hb; have hP_ := lQ (lB HB) hb; replace HB := aaM hP_.1; have BK225 := aaM (hbox); have GW225 := aaM (gQ hg hP_.2); have GE225 := aaM (gQ hg hP_.2); obtain ⟨NB213_225, NB225_213⟩ := nS hg BK213; replace BK213 := bY hb BK213; obtain ⟨NB214_225, NB225_214⟩ := nS hg BK214; replace BK214 := bY hb BK214; obtain ⟨NB215_225, NB225_215⟩ := nS hg BK215; replace BK215 := bY hb BK215; clear hb hbox hg hP_; refine hK.out _ _ hD (fun hHeld => ?_); clear hK K; refine nU 5 ?_
        exact norm_ (by simp only [putAll, Act.put, ssB, ssZ, ssS]) (hCont (gb225) _ ⟨hHeld, (bZ BK213), (bZ BK214), (bZ BK215), (bZ BK225), GW225.out, GE225.out, NB213_225.out, NB225_213.out, NB214_225.out, NB225_214.out, NB215_225.out, NB225_215.out, (lB HB)⟩)
       ·skip
        refine box_step ?hg (N := 5) ?hd (cs := #[.int .u64 0, .int .u64 0]) (t := 30) ?hr ?_; (case hd => rfl); (case hg => rfl); (case hr => first | (go_simp; done) | (go_simp; rfl)); intro gb225 hg w31 hbox hb; have hP_ := lQ (lB HB) hb; replace HB := aaM hP_.1; have BK225 := aaM (hbox); have GW225 := aaM (gQ hg hP_.2); have GE225 := aaM (gQ hg hP_.2); obtain ⟨NB213_225, NB225_213⟩ := nS hg BK213; replace BK213 := bY hb BK213; obtain ⟨NB214_225, NB225_214⟩ := nS hg BK214; replace BK214 := bY hb BK214; obtain ⟨NB215_225, NB225_215⟩ := nS hg BK215; replace BK215 := bY hb BK215; clear hb hbox hg hP_; refine hK.out _ _ hD (fun hHeld => ?_); clear hK K; refine nU 5 ?_
        refine oU 6 (some 23) (qB 13 1151) HT_ (fun K hK => ?_); refine gU Try.func86 #[.agg #[.int .u64 t218, .int .u64 t219], .agg #[.int .u64 t220, .int .u64 t221]] ?_; (with_reducible refine (prod_Add.calls t218 t219 t220 t221 t222 t223 t224 _ A27.out).mono ?_); rintro e w32 ⟨rfl, hb⟩; refine ⟨_, rfl, ?_⟩; replace BK213 := bY hb BK213; replace BK214 := bY hb BK214; replace BK215 := bY hb BK215; replace BK225 := bY hb BK225; replace HB := aaM (lP (lB HB) hb); (try clear hb); (try clear hb2); (try clear hk); (try clear hi); refine hK.out _ _ hD (fun hHeld => ?_); clear hK K; refine nU 23 ?_
        refine pU 7 16 (qB 13 1279) HT_ ?_
        refine pU 8 24 (qB 13 1535) HT_ ?_
        refine pU 9 25 (qB 13 2047) HT_ ?_
        exact norm_ (by simp only [putAll, Act.put, ssB, ssZ, ssS]) (hCont (gb225) _ ⟨hHeld, (bZ BK213), (bZ BK214), (bZ BK215), (bZ BK225), GW225.out, GE225.out, NB213_225.out, NB225_213.out, NB214_225.out, NB225_214.out, NB215_225.out, NB225_215.out, (lB HB)⟩)
      ·skip
       refine box_step ?hg (N := 5) ?hd (cs := #[.int .u64 0, .int .u64 0]) (t := 30) ?hr ?_; (case hd => rfl); (case hg => rfl); (case hr => first | (go_simp; done) | (go_simp; rfl)); intro gb225 hg w30 hbox hb; have hP_ := lQ (lB HB) hb; replace HB := aaM hP_.1; have BK225 := aaM (hbox); have GW225 := aaM (gQ hg hP_.2); have GE225 := aaM (gQ hg hP_.2); obtain ⟨NB213_225, NB225_213⟩ := nS hg BK213; replace BK213 := bY hb BK213; obtain ⟨NB214_225, NB225_214⟩ := nS hg BK214; replace BK214 := bY hb BK214; obtain ⟨NB215_225, NB225_215⟩ := nS hg BK215; replace BK215 := bY hb BK215; clear hb hbox hg hP_; refine hK.out _ _ hD (fun hHeld => ?_); clear hK K; refine nU 5 ?_
       refine oU 5 (some 22) (qB 13 1087) HT_ (fun K hK => ?_); refine gU Try.func99 #[.agg #[.int .i64 a1_0, .int .i64 a1_1, .int .i64 a1_2], .agg #[.int .i64 a0_0, .int .i64 a0_1, .int .i64 a0_2]] ?_; (with_reducible refine (spread_side.calls a1_0 a1_1 a1_2 a0_0 a0_1 a0_2 t220 t221 _ A26.out).mono ?_); rintro e w31 ⟨rfl, hb⟩; refine ⟨_, rfl, ?_⟩; replace BK213 := bY hb BK213; replace BK214 := bY hb BK214; replace BK215 := bY hb BK215; replace BK225 := bY hb BK225; replace HB := aaM (lP (lB HB) hb); (try clear hb); (try clear hb2); (try clear hk); (try clear hi); refine hK.out _ _ hD (fun hHeld => ?_); clear hK K; refine nU 22 ?_
       refine oU 6 (some 23) (qB 13 1151) HT_ (fun K hK => ?_); refine gU Try.func86 #[.agg #[.int .u64 t218, .int .u64 t219], .agg #[.int .u64 t220, .int .u64 t221]] ?_; (with_reducible refine (prod_Add.calls t218 t219 t220 t221 t222 t223 t224 _ A27.out).mono ?_); rintro e w32 ⟨rfl, hb⟩; refine ⟨_, rfl, ?_⟩; replace BK213 := bY hb BK213; replace BK214 := bY hb BK214; replace BK215 := bY hb BK215; replace BK225 := bY hb BK225; replace HB := aaM (lP (lB HB) hb); (try clear hb); (try clear hb2); (try clear hk); (try clear hi); refine hK.out _ _ hD (fun hHeld => ?_); clear hK K; refine nU 23 ?_
       refine pU 7 16 (qB 13 1279) HT_ ?_
       refine pU 8 24 (qB 13 1535) HT_ ?_
       refine pU 9 25 (qB 13 2047) HT_ ?_
       exact norm_ (by simp only [putAll, Act.put, ssB, ssZ, ssS]) (hCont (gb225) _ ⟨hHeld, (bZ BK213), (bZ BK214), (bZ BK215), (bZ BK225), GW225.out, GE225.out, NB213_225.out, NB225_213.out, NB214_225.out, NB225_214.out, NB215_225.out, NB225_215.out, (lB HB)⟩)
     ·skip
      refine box_step ?hg (N := 5) ?hd (cs := #[.int .u64 0, .int .u64 0]) (t := 30) ?hr ?_; (case hd => rfl); (case hg => rfl); (case hr => first | (go_simp; done) | (go_simp; rfl)); intro gb225 hg w29 hbox hb; have hP_ := lQ (lB HB) hb; replace HB := aaM hP_.1; have BK225 := aaM (hbox); have GW225 := aaM (gQ hg hP_.2); have GE225 := aaM (gQ hg hP_.2); obtain ⟨NB213_225, NB225_213⟩ := nS hg BK213; replace BK213 := bY hb BK213; obtain ⟨NB214_225, NB225_214⟩ := nS hg BK214; replace BK214 := bY hb BK214; obtain ⟨NB215_225, NB225_215⟩ := nS hg BK215; replace BK215 := bY hb BK215; clear hb hbox hg hP_; refine hK.out _ _ hD (fun hHeld => ?_); clear hK K; refine nU 5 ?_
      refine oU 2 (some 19) (qB 13 1055) HT_ (fun K hK => ?_); refine gU Try.func99 #[.agg #[.int .i64 a0_0, .int .i64 a0_1, .int .i64 a0_2], .agg #[.int .i64 a1_0, .int .i64 a1_1, .int .i64 a1_2]] ?_; (with_reducible refine (spread_side.calls a0_0 a0_1 a0_2 a1_0 a1_1 a1_2 t218 t219 _ A25.out).mono ?_); rintro e w30 ⟨rfl, hb⟩; refine ⟨_, rfl, ?_⟩; replace BK213 := bY hb BK213; replace BK214 := bY hb BK214; replace BK215 := bY hb BK215; replace BK225 := bY hb BK225; replace HB := aaM (lP (lB HB) hb); (try clear hb); (try clear hb2); (try clear hk); (try clear hi); refine hK.out _ _ hD (fun hHeld => ?_); clear hK K; refine nU 19 ?_
      refine oU 5 (some 22) (qB 13 1087) HT_ (fun K hK => ?_); refine gU Try.func99 #[.agg #[.int .i64 a1_0, .int .i64 a1_1, .int .i64 a1_2], .agg #[.int .i64 a0_0, .int .i64 a0_1, .int .i64 a0_2]] ?_; (with_reducible refine (spread_side.calls a1_0 a1_1 a1_2 a0_0 a0_1 a0_2 t220 t221 _ A26.out).mono ?_); rintro e w31 ⟨rfl, hb⟩; refine ⟨_, rfl, ?_⟩; replace BK213 := bY hb BK213; replace BK214 := bY hb BK214; replace BK215 := bY hb BK215; replace BK225 := bY hb BK225; replace HB := aaM (lP (lB HB) hb); (try clear hb); (try clear hb2); (try clear hk); (try clear hi); refine hK.out _ _ hD (fun hHeld => ?_); clear hK K; refine nU 22 ?_
      refine oU 6 (some 23) (qB 13 1151) HT_ (fun K hK => ?_); refine gU Try.func86 #[.agg #[.int .u64 t218, .int .u64 t219], .agg #[.int .u64 t220, .int .u64 t221]] ?_; (with_reducible refine (prod_Add.calls t218 t219 t220 t221 t222 t223 t224 _ A27.out).mono ?_); rintro e w32 ⟨rfl, hb⟩; refine ⟨_, rfl, ?_⟩; replace BK213 := bY hb BK213; replace BK214 := bY hb BK214; replace BK215 := bY hb BK215; replace BK225 := bY hb BK225; replace HB := aaM (lP (lB HB) hb); (try clear hb); (try clear hb2); (try clear hk); (try clear hi); refine hK.out _ _ hD (fun hHeld => ?_); clear hK K; refine nU 23 ?_
      refine pU 7 16 (qB 13 1279) HT_ ?_
      refine pU 8 24 (qB 13 1535) HT_ ?_
      refine pU 9 25 (qB 13 2047) HT_ ?_
      exact norm_ (by simp only [putAll, Act.put, ssB, ssZ, ssS]) (hCont (gb225) _ ⟨hHeld, (bZ BK213), (bZ BK214), (bZ BK215), (bZ BK225), GW225.out, GE225.out, NB213_225.out, NB225_213.out, NB214_225.out, NB225_214.out, NB215_225.out, NB225_215.out, (lB HB)⟩)
    rintro gb225 w33 ⟨hS_, h0_, h1_, h2_, h3_, h4_, h5_, h6_, h7_, h8_, h9_, h10_, h11_, h12_⟩; have n0_ : Aside0 (w33.heap[gb213]? = some (.cells #[.int .i64 a0_0, .int .i64 a0_1, .int .i64 a0_2] 54 (0, 0))) := ⟨h0_⟩; have n1_ : Aside0 (w33.heap[gb214]? = some (.cells #[.int .i64 a1_0, .int .i64 a1_1, .int .i64 a1_2] 54 (0, 0))) := ⟨h1_⟩; have n2_ : Aside0 (w33.heap[gb215]? = some (.cells #[.int .u64 0, .int .u64 0, .int .u64 0] 32 (0, 0))) := ⟨h2_⟩; have n3_ : Aside0 (w33.heap[gb225]? = some (.cells #[.int .u64 0, .int .u64 0] 30 (0, 0))) := ⟨h3_⟩; have n4_ : Aside0 (w.heap.size ≤ gb225) := ⟨h4_⟩; have n5_ : Aside0 (w.heap.size ≤ gb225) := ⟨h5_⟩; have n6_ : Aside0 (gb213 ≠ gb225) := ⟨h6_⟩; have n7_ : Aside0 (gb225 ≠ gb213) := ⟨h7_⟩; have n8_ : Aside0 (gb214 ≠ gb225) := ⟨h8_⟩; have n9_ : Aside0 (gb225 ≠ gb214) := ⟨h9_⟩; have n10_ : Aside0 (gb215 ≠ gb225) := ⟨h10_⟩; have n11_ : Aside0 (gb225 ≠ gb215) := ⟨h11_⟩; have n12_ : Aside0 (Below w.heap.size w w33) := ⟨h12_⟩; clear BK213 BK214 BK215 HB h0_ h1_ h2_ h3_ h4_ h5_ h6_ h7_ h8_ h9_ h10_ h11_ h12_; have BK213 := n0_; have BK214 := n1_; have BK215 := n2_; have BK225 := n3_; have GW225 := n4_; have GE225 := n5_; have NB213_225 := n6_; have NB225_213 := n7_; have NB214_225 := n8_; have NB225_214 := n9_; have NB215_225 := n10_; have NB225_215 := n11_; have HB := n12_; clear n0_ n1_ n2_ n3_ n4_ n5_ n6_ n7_ n8_ n9_ n10_ n11_ n12_; have hHeld : w33.cell? ⟨gb213, 0, none⟩ = some (.int .i64 a0_0) ∧ w33.cell? ⟨gb213, 1, none⟩ = some (.int .i64 a0_1) ∧ w33.cell? ⟨gb213, 2, none⟩ = some (.int .i64 a0_2) ∧ w33.cell? ⟨gb214, 0, none⟩ = some (.int .i64 a1_0) ∧ w33.cell? ⟨gb214, 1, none⟩ = some (.int .i64 a1_1) ∧ w33.cell? ⟨gb214, 2, none⟩ = some (.int .i64 a1_2) := hS_; refine norm_ (a' := ?_) ?_ ?_; rotate_left
    ·simp only [putAll, Act.put, ssB, ssZ, ssS]
     rfl
    refine oU 11 none (qB 13 4095) HT_ (fun K hK => ?_); obtain ⟨hs34, -, hfs34, -⟩ := bE2 BK225.out; have := NB213_225.out; have := NB214_225.out; have := NB215_225.out; have := NB225_213.out; have := NB225_214.out; have := NB225_215.out; obtain ⟨-, hs35, -, hfs35⟩ := bE2 BK225.out; have := NB213_225.out; have := NB214_225.out; have := NB215_225.out; have := NB225_213.out; have := NB225_214.out; have := NB225_215.out; refine skip_ (w1 := ?_) (by rfl) rfl ?_ ?_; rotate_left
    ·go_simp
     rfl
    refine hK.out _ _ (cH hHeld) (fun hHeld => ?_); clear hK K; refine pU 12 6 (qB 13 8191) HT_ ?_
    refine done_ (done_of HT_.out (by kernel_rfl)) ?_; have := NB225_213.out; have := NB213_225.out; have := NB225_214.out; have := NB214_225.out; have := NB225_215.out; have := NB215_225.out; obtain ⟨_, _, _, _⟩ := bE2 BK225.out; have := NB213_214.out; have := NB214_213.out; have := NB213_215.out; have := NB215_213.out; obtain ⟨_, _, _, _, _, _⟩ := bE3 BK213.out; have := NB214_215.out; have := NB215_214.out; obtain ⟨_, _, _, _, _, _⟩ := bE3 BK214.out; obtain ⟨_, _, _, _, _, _⟩ := bE3 BK215.out; (try go_wp2); refine bodyPost_ret (results_cell_row rfl _ _ gb215 32 #[.int .u64 t222, .int .u64 t223, .int .u64 (IntKind.u64.wrap ((IntKind.u64.wrap (a0_0)) * (IntKind.u64.wrap (a1_0))))] (0, 0) _ rfl (bZ BK215) Try.underlying32 rfl (by kernel_rfl)) rfl ?_
    exact ⟨eE, lB HB⟩

-- NOT PRINTED: function 92 (split_means_score)

end Go.Proofs.Ytancajnbjmcamaa.QSplitTimes
