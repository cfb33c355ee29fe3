-- Written by a program of this session (wip/tools/mkprint.py over the kit's print); Lean checks it.
import Derived.Test.YtbofijmijeaadaaQMixBackx0
namespace Go.Proofs.Ytbofijmijeaadaa.QMixBack
open Go.RowKit Go.Proofs.YtbofijmijeaadaaW.PrintWords Go.Proofs.YtbofijmijeaadaaW.PrintLast Go.Proofs.YtbofijmijeaadaaW.PrintMore
attribute [local go_sem] max2_int min2_int max_two min_two max_three min_three max_four min_four   -- for this text's walks alone
set_option linter.unusedVariables false
set_option linter.unusedSimpArgs false

/-! ### mix_Mix: function 13 -/
def mix_Mix.f (a0 : Int) : Option (Int) := some (Go.bits .xor .u64 (IntKind.u64.wrap ((Go.bits .xor .u64 (IntKind.u64.wrap ((Go.bits .xor .u64 (IntKind.u64.wrap (a0 + 11400714819323198485)) ((IntKind.u64.wrap (a0 + 11400714819323198485)) / 1073741824)) * 13787848793156543929)) ((IntKind.u64.wrap ((Go.bits .xor .u64 (IntKind.u64.wrap (a0 + 11400714819323198485)) ((IntKind.u64.wrap (a0 + 11400714819323198485)) / 1073741824)) * 13787848793156543929)) / 134217728)) * 10723151780598845931)) ((IntKind.u64.wrap ((Go.bits .xor .u64 (IntKind.u64.wrap ((Go.bits .xor .u64 (IntKind.u64.wrap (a0 + 11400714819323198485)) ((IntKind.u64.wrap (a0 + 11400714819323198485)) / 1073741824)) * 13787848793156543929)) ((IntKind.u64.wrap ((Go.bits .xor .u64 (IntKind.u64.wrap (a0 + 11400714819323198485)) ((IntKind.u64.wrap (a0 + 11400714819323198485)) / 1073741824)) * 13787848793156543929)) / 134217728)) * 10723151780598845931)) / 2147483648))
set_option maxHeartbeats 8000000 in
set_option maxRecDepth 100000 in
theorem mix_Mix.calls (a0 : Int) (r : Int) (w : World) (h : mix_Mix.f a0 = some r) :
    Calls Try.prog 13 #[.int .u64 a0] w fun e w' => e = .returned (.int .u64 r) ∧ Drawn0 w w' := by
  have H : (some (Go.bits .xor .u64 (IntKind.u64.wrap ((Go.bits .xor .u64 (IntKind.u64.wrap ((Go.bits .xor .u64 (IntKind.u64.wrap (a0 + 11400714819323198485)) ((IntKind.u64.wrap (a0 + 11400714819323198485)) / 1073741824)) * 13787848793156543929)) ((IntKind.u64.wrap ((Go.bits .xor .u64 (IntKind.u64.wrap (a0 + 11400714819323198485)) ((IntKind.u64.wrap (a0 + 11400714819323198485)) / 1073741824)) * 13787848793156543929)) / 134217728)) * 10723151780598845931)) ((IntKind.u64.wrap ((Go.bits .xor .u64 (IntKind.u64.wrap ((Go.bits .xor .u64 (IntKind.u64.wrap (a0 + 11400714819323198485)) ((IntKind.u64.wrap (a0 + 11400714819323198485)) / 1073741824)) * 13787848793156543929)) ((IntKind.u64.wrap ((Go.bits .xor .u64 (IntKind.u64.wrap (a0 + 11400714819323198485)) ((IntKind.u64.wrap (a0 + 11400714819323198485)) / 1073741824)) * 13787848793156543929)) / 134217728)) * 10723151780598845931)) / 2147483648))) = some r := h
  clear h
  obtain rfl := Option.some.inj H
  go_enter Try.func13, Try.ntmps13
  go_wp2
  all_goals (go_ret; exact ⟨by first | rfl | (simp; done) | (simp [*]; done), by repeat (first | exact Drawn0.refl _ | apply Drawn0.step)⟩)

/-! ### hornbeamlaw01_fixed: function 12 -/
def hornbeamlaw01_fixed.f  : Option (Bool) := (mix_Mix.f 0).bind fun t101 => (if t101 = 16294208416658607535 then ((mix_Mix.f 11400714819323198485).bind fun t102 => (some (t102 == 7960286522194355700))) else (some false))
set_option maxHeartbeats 8000000 in
set_option maxRecDepth 100000 in
theorem hornbeamlaw01_fixed.calls  (r : Bool) (w : World) (h : hornbeamlaw01_fixed.f  = some r) :
    Calls Try.prog 12 #[] w fun e w' => e = .returned (.bool r) ∧ Drawn0 w w' := by
  have H : ((mix_Mix.f 0).bind fun t101 => (if t101 = 16294208416658607535 then ((mix_Mix.f 11400714819323198485).bind fun t102 => (some (t102 == 7960286522194355700))) else (some false))) = some r := h
  clear h
  replace H := Option.bind_eq_some_iff.mp H
  obtain ⟨t101, A10, H⟩ := H
  replace H : (if t101 = 16294208416658607535 then ((mix_Mix.f 11400714819323198485).bind fun t102 => (some (t102 == 7960286522194355700))) else (some false)) = some r := H
  have A1 := Aside0.mk A10
  clear A10
  by_cases c2 : t101 = 16294208416658607535
  · rw [if_pos c2] at H
    have c2b0 : (t101 == 16294208416658607535) = true := beq_iff_eq.mpr c2
    have c2b1 : (t101 != 16294208416658607535) = false := bne_eq_false_iff_eq.mpr c2
    clear c2
    replace H := Option.bind_eq_some_iff.mp H
    obtain ⟨t102, A30, H⟩ := H
    replace H : (some (t102 == 7960286522194355700)) = some r := H
    have A3 := Aside0.mk A30
    clear A30
    obtain rfl := Option.some.inj H
    go_enter Try.func12, Try.ntmps12
    go_wp2_with (first | ((with_reducible refine gate_callee (f := 13) rfl ?_); refine goesL_ (some 1) rfl rfl Try.func13 (by kernel_rfl) rfl #[.int .u64 0] rfl (by (try simp only [List.map_toArray, List.map_cons, List.map_nil]); first | done | rfl | (simp only [List.length_drop, List.length_take]; rfl)) ?_; (with_reducible refine (mix_Mix.calls 0 t101 _ A1.out).mono ?_); rintro e w' ⟨rfl, ⟨nd, rfl⟩⟩; refine ⟨_, rfl, ?_⟩) | (go_at_call 13; (with_reducible refine (mix_Mix.calls 11400714819323198485 t102 _ A3.out).mono ?_); rintro e w' ⟨rfl, ⟨nd, rfl⟩⟩))
    all_goals (go_ret; exact ⟨by first | rfl | (simp; done) | (simp [*]; done), by repeat (first | exact Drawn0.refl _ | apply Drawn0.step)⟩)
  · rw [if_neg c2] at H
    have c2b0 : (t101 == 16294208416658607535) = false := beq_eq_false_iff_ne.mpr c2
    have c2b1 : (t101 != 16294208416658607535) = true := bne_iff_ne.mpr c2
    obtain rfl := Option.some.inj H
    go_enter Try.func12, Try.ntmps12
    go_wp2_with (first | ((with_reducible refine gate_callee (f := 13) rfl ?_); refine goesL_ (some 1) rfl rfl Try.func13 (by kernel_rfl) rfl #[.int .u64 0] rfl (by (try simp only [List.map_toArray, List.map_cons, List.map_nil]); first | done | rfl | (simp only [List.length_drop, List.length_take]; rfl)) ?_; (with_reducible refine (mix_Mix.calls 0 t101 _ A1.out).mono ?_); rintro e w' ⟨rfl, ⟨nd, rfl⟩⟩; refine ⟨_, rfl, ?_⟩))
    all_goals (go_ret; exact ⟨by first | rfl | (simp; done) | (simp [*]; done), by repeat (first | exact Drawn0.refl _ | apply Drawn0.step)⟩)

-- NOT PRINTED: function 32 (mix_unshifted)

/-! ### mix_inverse: function 33 -/
def mix_inverse.l0 : Nat → Int → Int → Int → Option (Int)
  | 0, _, _, _ => none
  | k + 1, x0, x3, x5 => if x5 < 6 then (mix_inverse.l0 k x0 (IntKind.u64.wrap (x3 * (IntKind.u64.wrap (2 - (IntKind.u64.wrap (x0 * x3)))))) (wrap64 (x5 + 1))) else (some x3)
def mix_inverse.f (k : Nat) (a0 : Int) : Option (Int) := mix_inverse.l0 k a0 a0 0
theorem mix_inverse.mono_l : ∀ k, (∀ y0 y1 y2, LeO (mix_inverse.l0 k y0 y1 y2) (mix_inverse.l0 (k + 1) y0 y1 y2))
  | 0 => fun _ _ _ r h => by simp [mix_inverse.l0] at h
  | k + 1 => by
    have ih0 := mix_inverse.mono_l k
    · intro y0 y1 y2
      unfold mix_inverse.l0
      repeat' first
      | (with_reducible exact ih0 _ _ _)
      | (with_reducible exact LeO.refl _)
      | (with_reducible exact LeO.none _)
      | (with_reducible refine LeO.ite ?_ ?_)
      | (with_reducible refine LeO.bind ?_ (fun _ => ?_))
      | exact ih0 _ _ _
      | exact LeO.none _
      | refine LeO.ite ?_ ?_
      | refine LeO.bind ?_ (fun _ => ?_)
theorem mix_inverse.mono : ∀ a0 k, LeO (mix_inverse.f k a0) (mix_inverse.f (k + 1) a0) := by
  intro a0 k
  have ih0 := mix_inverse.mono_l k
  unfold mix_inverse.f
  repeat' first
      | (with_reducible exact ih0 _ _ _)
      | (with_reducible exact LeO.refl _)
      | (with_reducible exact LeO.none _)
      | (with_reducible refine LeO.ite ?_ ?_)
      | (with_reducible refine LeO.bind ?_ (fun _ => ?_))
      | exact ih0 _ _ _
      | exact LeO.none _
      | refine LeO.ite ?_ ?_
      | refine LeO.bind ?_ (fun _ => ?_)
set_option maxHeartbeats 8000000 in
set_option maxRecDepth 100000 in
theorem mix_inverse.calls (k : Nat) (a0 : Int) (r : Int) (w : World) (h : mix_inverse.f k a0 = some r) :
    Calls Try.prog 33 #[.int .u64 a0] w fun e w' => e = .returned (.int .u64 r) ∧ Drawn0 w w' := by
  have H : (mix_inverse.l0 k a0 a0 0) = some r := h
  clear h
  have H' := Aside0.mk H
  clear H
  go_enter Try.func33, Try.ntmps33
  go_wp2
  go_loopg [3, 5] k (fun kq v3 v5 w' => ∃ (x3_1 : Int) (x5_1 : Int), v3 = .int .u64 x3_1 ∧ v5 = .int .i64 x5_1 ∧ Aside0 (mix_inverse.l0 kq a0 x3_1 x5_1 = some r) ∧ Aside0 (kq ≤ k) ∧ Drawn0 w w')
  case atStart => exact ⟨(a0), (0), (by first | rfl | (simp; done) | (simp [*]; done)), (by first | rfl | (simp; done) | (simp [*]; done)), H', ⟨Nat.le_refl _⟩, by repeat (first | exact Drawn0.refl _ | apply Drawn0.step)⟩
  case round =>
    clear H'
    obtain ⟨x3_1, x5_1, rfl, rfl, HA, HK1, ⟨m1, rfl⟩⟩ := hrel
    cases gk with
    | zero => exact absurd HA.out (by simp [mix_inverse.l0])
    | succ k1 =>
      have H := HA.out
      clear HA
      simp only [mix_inverse.l0] at H
      by_cases c2 : x5_1 < 6
      · rw [if_pos c2] at H
        have c2b0 : decide (x5_1 < 6) = true := decide_eq_true c2
        clear c2
        have H' := Aside0.mk H
        clear H
        go_wp2
        go_roundg k1
        case measure => have := HK1.out; omega
        case rel => exact ⟨(IntKind.u64.wrap (x3_1 * (IntKind.u64.wrap (2 - (IntKind.u64.wrap (a0 * x3_1)))))), (wrap64 (x5_1 + 1)), (by first | rfl | (simp; done) | (simp [*]; done)), (by first | rfl | (simp; done) | (simp [*]; done)), H', ⟨by have := HK1.out; omega⟩, by repeat (first | exact Drawn0.refl _ | apply Drawn0.step)⟩
      · rw [if_neg c2] at H
        have c2b0 : decide (x5_1 < 6) = false := decide_eq_false c2
        clear c2
        obtain rfl := Option.some.inj H
        go_wp2
        all_goals (go_ret; exact ⟨by first | rfl | (simp; done) | (simp [*]; done), by repeat (first | exact Drawn0.refl _ | apply Drawn0.step)⟩)

/-! ### mix_Back: function 24 -/
def mix_Back.u31 (y : Int) : Int := Go.bits .xor .u64 (Go.bits .xor .u64 y (y / 2147483648)) (y / 4611686018427387904)
def mix_Back.R31 (y : Int) (v4 v5 : Value) : Prop := (v4 = .int .u64 y ∧ v5 = .int .i64 31) ∨ (v4 = .int .u64 (Go.bits .xor .u64 y (y / 2147483648)) ∧ v5 = .int .i64 62) ∨ (v4 = .int .u64 (mix_Back.u31 y) ∧ v5 = .int .i64 93)
set_option maxHeartbeats 4000000 in
theorem mix_Back.calls31 (y : Int) (g : Nat) (w : World) (h : w.heap[g]? = some (.cells #[.int .i64 31] 3 (0, 0))) :
    Calls Try.prog 34 #[.int .u64 y, .pointer (some ⟨g, 0, none⟩)] w fun e w' => e = .returned (.int .u64 (mix_Back.u31 y)) ∧ Drawn0 w w' := by
  have hc : w.cell? ⟨g, 0, none⟩ = some (.int .i64 31) := (blk_cell h 0).trans rfl
  go_enter Try.func34, Try.ntmps34
  go_wp2
  go_loopw [4, 5] (fun v4 v5 w' => mix_Back.R31 y v4 v5 ∧ Drawn0 w w') (fun _ v5 _ => 200 - (intOf v5).toNat)
  case atStart => exact ⟨.inl ⟨rfl, rfl⟩, Drawn0.refl _⟩
  case round =>
    obtain ⟨hr, ⟨m1, rfl⟩⟩ := hrel
    unfold mix_Back.R31 at hr
    rcases hr with ⟨rfl, rfl⟩ | ⟨rfl, rfl⟩ | ⟨rfl, rfl⟩
    · go_wp2
      repeat (go_quiet (fail); try go_wp2)
      go_roundw
      case rel => exact ⟨.inr (.inl ⟨by first | rfl | simp, by first | rfl | simp⟩), by repeat (first | exact Drawn0.refl _ | apply Drawn0.step)⟩
      case measure => simp [intOf]
    · go_wp2
      repeat (go_quiet (fail); try go_wp2)
      go_roundw
      case rel => exact ⟨.inr (.inr ⟨by first | rfl | simp, by first | rfl | simp⟩), by repeat (first | exact Drawn0.refl _ | apply Drawn0.step)⟩
      case measure => simp [intOf]
    · go_wp2
      go_ret
      exact ⟨rfl, by repeat (first | exact Drawn0.refl _ | apply Drawn0.step)⟩
def mix_Back.u27 (y : Int) : Int := Go.bits .xor .u64 (Go.bits .xor .u64 y (y / 134217728)) (y / 18014398509481984)
def mix_Back.R27 (y : Int) (v4 v5 : Value) : Prop := (v4 = .int .u64 y ∧ v5 = .int .i64 27) ∨ (v4 = .int .u64 (Go.bits .xor .u64 y (y / 134217728)) ∧ v5 = .int .i64 54) ∨ (v4 = .int .u64 (mix_Back.u27 y) ∧ v5 = .int .i64 81)
set_option maxHeartbeats 4000000 in
theorem mix_Back.calls27 (y : Int) (g : Nat) (w : World) (h : w.heap[g]? = some (.cells #[.int .i64 27] 3 (0, 0))) :
    Calls Try.prog 34 #[.int .u64 y, .pointer (some ⟨g, 0, none⟩)] w fun e w' => e = .returned (.int .u64 (mix_Back.u27 y)) ∧ Drawn0 w w' := by
  have hc : w.cell? ⟨g, 0, none⟩ = some (.int .i64 27) := (blk_cell h 0).trans rfl
  go_enter Try.func34, Try.ntmps34
  go_wp2
  go_loopw [4, 5] (fun v4 v5 w' => mix_Back.R27 y v4 v5 ∧ Drawn0 w w') (fun _ v5 _ => 200 - (intOf v5).toNat)
  case atStart => exact ⟨.inl ⟨rfl, rfl⟩, Drawn0.refl _⟩
  case round =>
    obtain ⟨hr, ⟨m1, rfl⟩⟩ := hrel
    unfold mix_Back.R27 at hr
    rcases hr with ⟨rfl, rfl⟩ | ⟨rfl, rfl⟩ | ⟨rfl, rfl⟩
    · go_wp2
      repeat (go_quiet (fail); try go_wp2)
      go_roundw
      case rel => exact ⟨.inr (.inl ⟨by first | rfl | simp, by first | rfl | simp⟩), by repeat (first | exact Drawn0.refl _ | apply Drawn0.step)⟩
      case measure => simp [intOf]
    · go_wp2
      repeat (go_quiet (fail); try go_wp2)
      go_roundw
      case rel => exact ⟨.inr (.inr ⟨by first | rfl | simp, by first | rfl | simp⟩), by repeat (first | exact Drawn0.refl _ | apply Drawn0.step)⟩
      case measure => simp [intOf]
    · go_wp2
      go_ret
      exact ⟨rfl, by repeat (first | exact Drawn0.refl _ | apply Drawn0.step)⟩
def mix_Back.u30 (y : Int) : Int := Go.bits .xor .u64 (Go.bits .xor .u64 y (y / 1073741824)) (y / 1152921504606846976)
def mix_Back.R30 (y : Int) (v4 v5 : Value) : Prop := (v4 = .int .u64 y ∧ v5 = .int .i64 30) ∨ (v4 = .int .u64 (Go.bits .xor .u64 y (y / 1073741824)) ∧ v5 = .int .i64 60) ∨ (v4 = .int .u64 (mix_Back.u30 y) ∧ v5 = .int .i64 90)
set_option maxHeartbeats 4000000 in
theorem mix_Back.calls30 (y : Int) (g : Nat) (w : World) (h : w.heap[g]? = some (.cells #[.int .i64 30] 3 (0, 0))) :
    Calls Try.prog 34 #[.int .u64 y, .pointer (some ⟨g, 0, none⟩)] w fun e w' => e = .returned (.int .u64 (mix_Back.u30 y)) ∧ Drawn0 w w' := by
  have hc : w.cell? ⟨g, 0, none⟩ = some (.int .i64 30) := (blk_cell h 0).trans rfl
  go_enter Try.func34, Try.ntmps34
  go_wp2
  go_loopw [4, 5] (fun v4 v5 w' => mix_Back.R30 y v4 v5 ∧ Drawn0 w w') (fun _ v5 _ => 200 - (intOf v5).toNat)
  case atStart => exact ⟨.inl ⟨rfl, rfl⟩, Drawn0.refl _⟩
  case round =>
    obtain ⟨hr, ⟨m1, rfl⟩⟩ := hrel
    unfold mix_Back.R30 at hr
    rcases hr with ⟨rfl, rfl⟩ | ⟨rfl, rfl⟩ | ⟨rfl, rfl⟩
    · go_wp2
      repeat (go_quiet (fail); try go_wp2)
      go_roundw
      case rel => exact ⟨.inr (.inl ⟨by first | rfl | simp, by first | rfl | simp⟩), by repeat (first | exact Drawn0.refl _ | apply Drawn0.step)⟩
      case measure => simp [intOf]
    · go_wp2
      repeat (go_quiet (fail); try go_wp2)
      go_roundw
      case rel => exact ⟨.inr (.inr ⟨by first | rfl | simp, by first | rfl | simp⟩), by repeat (first | exact Drawn0.refl _ | apply Drawn0.step)⟩
      case measure => simp [intOf]
    · go_wp2
      go_ret
      exact ⟨rfl, by repeat (first | exact Drawn0.refl _ | apply Drawn0.step)⟩
set_option maxHeartbeats 4000000 in
theorem mix_Back.made (n : Int) (w : World) : Calls Try.prog 32 #[.int .i64 n] w fun e w' => ∃ g, e = .returned (.func (.func 34) #[] #[.pointer (some ⟨g, 0, none⟩)]) ∧ w'.heap[g]? = some (.cells #[.int .i64 n] 3 (0, 0)) ∧ Below w.heap.size w w' := by
  go_enter Try.func32, Try.ntmps32
  go_wp2
  go_ret
  exact ⟨_, rfl, blk_new _ _, below_alloc (Below.refl _ _) _⟩
def mix_Back.f (k : Nat) (a0 : Int) : Option Int := (mix_inverse.f k 10723151780598845931).bind fun i2 => (mix_inverse.f k 13787848793156543929).bind fun i1 => some (IntKind.u64.wrap (mix_Back.u30 (IntKind.u64.wrap (mix_Back.u27 (IntKind.u64.wrap (mix_Back.u31 a0 * i2)) * i1)) - 11400714819323198485))
theorem mix_Back.mono : ∀ a0 k, LeO (mix_Back.f k a0) (mix_Back.f (k + 1) a0) := by
  intro a0 k
  unfold mix_Back.f
  refine LeO.bind (mix_inverse.mono _ _) (fun _ => LeO.bind (mix_inverse.mono _ _) (fun _ => LeO.refl _))
set_option maxHeartbeats 8000000 in
set_option maxRecDepth 100000 in
theorem mix_Back.calls (k : Nat) (a0 : Int) (r : Int) (w : World) (h : mix_Back.f k a0 = some r) : Calls Try.prog 24 #[.int .u64 a0] w fun e w' => e = .returned (.int .u64 r) ∧ Below w.heap.size w w' := by
  unfold mix_Back.f at h
  replace h := Option.bind_eq_some_iff.mp h
  obtain ⟨i2, h2, h⟩ := h
  replace h := Option.bind_eq_some_iff.mp h
  obtain ⟨i1, h1, h⟩ := h
  have hr := Option.some.inj h
  have H1 := Aside0.mk h1
  have H2 := Aside0.mk h2
  have HR := Aside0.mk hr
  clear h h1 h2 hr
  go_enter Try.func24, Try.ntmps24
  have HB0 := Aside0.mk (Below.refl w.heap.size w)
  go_wp2_with (first | ((with_reducible refine gate_callee (f := 32) rfl ?_); refine goesL_ (some 4) rfl rfl Try.func32 (by kernel_rfl) rfl #[.int .i64 31] rfl (by (try simp only [List.map_toArray, List.map_cons, List.map_nil]); first | done | rfl) ?_; (with_reducible refine (mix_Back.made 31 _).mono ?_); rintro e w4 ⟨g4, rfl, hg4, hb4⟩; refine ⟨_, rfl, ?_⟩; have HB4 := Aside0.mk (below_step (by repeat (first | exact HB0.out | apply pw_below_drewN | apply below_drew1)) hb4); have HG4 := Aside0.mk hg4; clear hb4 hg4) | (go_at_call 34; (with_reducible refine (mix_Back.calls31 _ g4 _ HG4.out).mono ?_); rintro e w' ⟨rfl, ⟨nd, rfl⟩⟩) | ((with_reducible refine gate_callee (f := 32) rfl ?_); refine goesL_ (some 9) rfl rfl Try.func32 (by kernel_rfl) rfl #[.int .i64 27] rfl (by (try simp only [List.map_toArray, List.map_cons, List.map_nil]); first | done | rfl) ?_; (with_reducible refine (mix_Back.made 27 _).mono ?_); rintro e w9 ⟨g9, rfl, hg9, hb9⟩; refine ⟨_, rfl, ?_⟩; have HB9 := Aside0.mk (below_step (by repeat (first | exact HB4.out | apply pw_below_drewN | apply below_drew1)) hb9); have HG9 := Aside0.mk hg9; clear hb9 hg9) | (go_at_call 34; (with_reducible refine (mix_Back.calls27 _ g9 _ HG9.out).mono ?_); rintro e w' ⟨rfl, ⟨nd, rfl⟩⟩) | ((with_reducible refine gate_callee (f := 32) rfl ?_); refine goesL_ (some 14) rfl rfl Try.func32 (by kernel_rfl) rfl #[.int .i64 30] rfl (by (try simp only [List.map_toArray, List.map_cons, List.map_nil]); first | done | rfl) ?_; (with_reducible refine (mix_Back.made 30 _).mono ?_); rintro e w14 ⟨g14, rfl, hg14, hb14⟩; refine ⟨_, rfl, ?_⟩; have HB14 := Aside0.mk (below_step (by repeat (first | exact HB9.out | apply pw_below_drewN | apply below_drew1)) hb14); have HG14 := Aside0.mk hg14; clear hb14 hg14) | (go_at_call 34; (with_reducible refine (mix_Back.calls30 _ g14 _ HG14.out).mono ?_); rintro e w' ⟨rfl, ⟨nd, rfl⟩⟩) | (go_at_call 33; (with_reducible refine (mix_inverse.calls k _ i2 _ H2.out).mono ?_); rintro e w' ⟨rfl, ⟨nd, rfl⟩⟩) | (go_at_call 33; (with_reducible refine (mix_inverse.calls k _ i1 _ H1.out).mono ?_); rintro e w' ⟨rfl, ⟨nd, rfl⟩⟩))
  go_ret
  exact ⟨by rw [← HR.out]; rfl, by repeat (first | exact HB14.out | apply pw_below_drewN | apply below_drew1)⟩


/-! ### hornbeamlaw01_MixBack: function 10 -/
def hornbeamlaw01_MixBack.f (k : Nat) (a0 : Int) : Option (Bool) := (hornbeamlaw01_fixed.f).bind fun t103 => (if t103 = true then ((mix_Mix.f a0).bind fun t104 => ((mix_Back.f k t104).bind fun t105 => (if t105 = a0 then ((mix_Back.f k a0).bind fun t106 => ((mix_Mix.f t106).bind fun t107 => (some (t107 == a0)))) else (some false)))) else (some false))
theorem hornbeamlaw01_MixBack.mono : ∀ a0 k, LeO (hornbeamlaw01_MixBack.f k a0) (hornbeamlaw01_MixBack.f (k + 1) a0) := by
  intro a0 k
  unfold hornbeamlaw01_MixBack.f
  repeat' first
      | (with_reducible exact mix_Back.mono _ _)
      | (with_reducible exact LeO.refl _)
      | (with_reducible exact LeO.none _)
      | (with_reducible refine LeO.ite ?_ ?_)
      | (with_reducible refine LeO.bind ?_ (fun _ => ?_))
      | exact mix_Back.mono _ _
      | exact LeO.none _
      | refine LeO.ite ?_ ?_
      | refine LeO.bind ?_ (fun _ => ?_)
set_option maxHeartbeats 8000000 in
set_option maxRecDepth 100000 in
theorem hornbeamlaw01_MixBack.calls (k : Nat) (a0 : Int) (r : Bool) (w : World) (h : hornbeamlaw01_MixBack.f k a0 = some r) (hr_ : r = true) :
    Calls Try.prog 10 #[.int .u64 a0] w fun e w' => e = .returned (.bool r) ∧ Below w.heap.size w w' := by
  have HR_ := Aside0.mk hr_
  clear hr_
  have HB := Aside0.mk (Below.refl w.heap.size w)
  have H : ((hornbeamlaw01_fixed.f).bind fun t103 => (if t103 = true then ((mix_Mix.f a0).bind fun t104 => ((mix_Back.f k t104).bind fun t105 => (if t105 = a0 then ((mix_Back.f k a0).bind fun t106 => ((mix_Mix.f t106).bind fun t107 => (some (t107 == a0)))) else (some false)))) else (some false))) = some r := h
  clear h
  replace H := Option.bind_eq_some_iff.mp H
  obtain ⟨t103, A20, H⟩ := H
  replace H : (if t103 = true then ((mix_Mix.f a0).bind fun t104 => ((mix_Back.f k t104).bind fun t105 => (if t105 = a0 then ((mix_Back.f k a0).bind fun t106 => ((mix_Mix.f t106).bind fun t107 => (some (t107 == a0)))) else (some false)))) else (some false)) = some r := H
  have A2 := Aside0.mk A20
  clear A20
  by_cases c3 : t103 = true
  · subst c3
    have H1 : ((mix_Mix.f a0).bind fun t104 => ((mix_Back.f k t104).bind fun t105 => (if t105 = a0 then ((mix_Back.f k a0).bind fun t106 => ((mix_Mix.f t106).bind fun t107 => (some (t107 == a0)))) else (some false)))) = some r := by rw [if_pos rfl] at H; exact H
    clear H
    have H := H1
    clear H1
    replace H := Option.bind_eq_some_iff.mp H
    obtain ⟨t104, A40, H⟩ := H
    replace H : ((mix_Back.f k t104).bind fun t105 => (if t105 = a0 then ((mix_Back.f k a0).bind fun t106 => ((mix_Mix.f t106).bind fun t107 => (some (t107 == a0)))) else (some false))) = some r := H
    have A4 := Aside0.mk A40
    clear A40
    replace H := Option.bind_eq_some_iff.mp H
    obtain ⟨t105, A50, H⟩ := H
    replace H : (if t105 = a0 then ((mix_Back.f k a0).bind fun t106 => ((mix_Mix.f t106).bind fun t107 => (some (t107 == a0)))) else (some false)) = some r := H
    have A5 := Aside0.mk A50
    clear A50
    by_cases c6 : t105 = a0
    · rw [if_pos c6] at H
      have c6b0 : (t105 == a0) = true := beq_iff_eq.mpr c6
      have c6b1 : (t105 != a0) = false := bne_eq_false_iff_eq.mpr c6
      clear c6
      replace H := Option.bind_eq_some_iff.mp H
      obtain ⟨t106, A70, H⟩ := H
      replace H : ((mix_Mix.f t106).bind fun t107 => (some (t107 == a0))) = some r := H
      have A7 := Aside0.mk A70
      clear A70
      replace H := Option.bind_eq_some_iff.mp H
      obtain ⟨t107, A80, H⟩ := H
      replace H : (some (t107 == a0)) = some r := H
      have A8 := Aside0.mk A80
      clear A80
      obtain rfl := Option.some.inj H
      go_enter Try.func10, Try.ntmps10
      go_wp2_with (first | ((with_reducible refine gate_callee (f := 12) rfl ?_); refine goesL_ (some 3) rfl rfl Try.func12 (by kernel_rfl) rfl #[] rfl (by (try simp only [List.map_toArray, List.map_cons, List.map_nil]); first | done | rfl | (simp only [List.length_drop, List.length_take]; rfl)) ?_; (with_reducible refine (hornbeamlaw01_fixed.calls  true _ A2.out).mono ?_); rintro e w' ⟨rfl, ⟨nd, rfl⟩⟩; refine ⟨_, rfl, ?_⟩) | (go_at_call 13; (with_reducible refine (mix_Mix.calls a0 t104 _ A4.out).mono ?_); rintro e w' ⟨rfl, ⟨nd, rfl⟩⟩) | (go_at_call 24; (with_reducible refine (mix_Back.calls k t104 t105 _ A5.out).mono ?_); rintro e w9 ⟨rfl, hb⟩; have n0_ := Aside0.mk (below_step (by repeat (first | (with_reducible first | exact HB.out | apply below_alloc | apply pw_below_drewN | apply below_drew1) | exact HB.out)) hb); clear HB; have HB := n0_; clear n0_; (try clear hb); (try clear hb2); (try clear hk); (try clear hi)) | (go_at_call 24; (with_reducible refine (mix_Back.calls k a0 t106 _ A7.out).mono ?_); rintro e w10 ⟨rfl, hb⟩; have n0_ := Aside0.mk (below_step (by repeat (first | (with_reducible first | exact HB.out | apply below_alloc | apply pw_below_drewN | apply below_drew1) | exact HB.out)) hb); clear HB; have HB := n0_; clear n0_; (try clear hb); (try clear hb2); (try clear hk); (try clear hi)) | (go_at_call 13; (with_reducible refine (mix_Mix.calls t106 t107 _ A8.out).mono ?_); rintro e w' ⟨rfl, ⟨nd, rfl⟩⟩))
      all_goals (go_ret; exact ⟨by first | rfl | (simp [errW_none, errW_some] <;> rfl) | (simp [*, errW_none, errW_some] <;> rfl) | (simp_all; done), by repeat (first | (with_reducible first | exact HB.out | apply below_alloc | apply pw_below_drewN | apply below_drew1) | exact HB.out)⟩)
    · rw [if_neg c6] at H
      have c6b0 : (t105 == a0) = false := beq_eq_false_iff_ne.mpr c6
      have c6b1 : (t105 != a0) = true := bne_iff_ne.mpr c6
      exact absurd (Option.some.inj H) (by rw [HR_.out]; decide)
  · replace c3 := Bool.eq_false_iff.mpr c3
    subst c3
    have H1 : (some false) = some r := by rw [if_neg (show ¬ (false = true) by decide)] at H; exact H
    clear H
    have H := H1
    clear H1
    exact absurd (Option.some.inj H) (by rw [HR_.out]; decide)

/-- THE ONE PURE STATEMENT of hornbeamlaw01_MixBack: yours. -/
def hornbeamlaw01_MixBack.Pure : Prop := ∀ (a0 : Int), (Lit.int .u64 a0).wf = true → ∃ k, hornbeamlaw01_MixBack.f k a0 = some true
theorem hornbeamlaw01_MixBack.walk (P : hornbeamlaw01_MixBack.Pure) (a0 : Int) (w : World) (w0 : (Lit.int .u64 a0).wf = true) :
    Calls Try.prog 10 #[.int .u64 a0] w fun e w' => e = .returned (.bool true) ∧ Below w.heap.size w w' := by
  obtain ⟨k, h⟩ := P a0 w0
  refine (hornbeamlaw01_MixBack.calls k a0 true w h rfl).mono ?_
  rintro e w' ⟨rfl, hd⟩
  exact ⟨rfl, hd⟩

end Go.Proofs.Ytbofijmijeaadaa.QMixBack
