-- Written by a program of this session (wip/tools/mkprint.py over the kit's print); Lean checks it.
import Derived.Test.YtancajnbjmcamaaQSplitBestx0
import Derived.Test.YtancajnbjmcamaaQSplitBestx2
import Derived.Test.YtancajnbjmcamaaQSplitBestx3
namespace Go.Proofs.Ytancajnbjmcamaa.QSplitBest
open Go.RowKit Go.Proofs.YtancajnbjmcamaaW.PrintWords Go.Proofs.YtancajnbjmcamaaW.PrintLast Go.Proofs.YtancajnbjmcamaaW.PrintMore
attribute [local go_sem] max2_int min2_int max_two min_two max_three min_three max_four min_four   -- for this text's walks alone
set_option linter.unusedVariables false
set_option linter.unusedSimpArgs false

attribute [local go_sem high] eqA54
/-! ### cmp_Compare_uint64: function 52 -/
def cmp_Compare_uint64.f (a0 : Int) (a1 : Int) : Option (Int) := (cmp_isNaN_uint64.f a0).bind fun t160 => ((cmp_isNaN_uint64.f a1).bind fun t161 => (if t160 = true then (if t161 = true then (some 0) else (some (-1))) else (if t161 = true then (some 1) else (if a0 < a1 then (some (-1)) else (if a0 > a1 then (some 1) else (some 0))))))
set_option maxHeartbeats 8000000 in
set_option maxRecDepth 100000 in
theorem cmp_Compare_uint64.calls (a0 : Int) (a1 : Int) (r : Int) (w : World) (h : cmp_Compare_uint64.f a0 a1 = some r) :
  Calls Try.prog 52 #[.int .u64 a0, .int .u64 a1] w fun e w' => e = .returned (.int .i64 r) ∧ Drawn0 w w' := by
 have H : ((cmp_isNaN_uint64.f a0).bind fun ab => ((cmp_isNaN_uint64.f a1).bind fun aa => (if ab = true then (if aa = true then (some 0) else (some (-1))) else (if aa = true then (some 1) else (if a0 < a1 then (some (-1)) else (if a0 > a1 then (some 1) else (some 0))))))) = some r := h
 clear h
 replace H := ooB.mp H
 obtain ⟨ab, ac, H⟩ := H
 (try dsimp only at H)
 have A3 := aaM ac
 clear ac
 replace H := ooB.mp H
 obtain ⟨aa, ae, H⟩ := H
 (try dsimp only at H)
 have A4 := aaM ae
 clear ae
 by_cases c5 : ab = true
 ·subst c5
  have H1 : (if aa = true then (some 0) else (some (-1))) = some r := by rw [if_pos rfl] at H; exact H
  clear H; have H := H1; clear H1
  by_cases c6 : aa = true
  ·subst c6
   have H1 : (some 0) = some r := by rw [if_pos rfl] at H; exact H
   clear H; have H := H1; clear H1; obtain rfl := Option.some.inj H; go_enter Try.func52, Try.ntmps52
   go_wp2_with (first | ((with_reducible refine gate_callee (f := 62) rfl ?_); refine gL (some 8) Try.func62 #[.int .u64 a0] ?_; (with_reducible refine (cmp_isNaN_uint64.calls a0 true _ A3.out).mono ?_); rintro e w' ⟨rfl, ⟨nd, rfl⟩⟩; refine ⟨_, rfl, ?_⟩) | ((with_reducible refine gate_callee (f := 62) rfl ?_); refine gL (some 10) Try.func62 #[.int .u64 a1] ?_; (with_reducible refine (cmp_isNaN_uint64.calls a1 true _ A4.out).mono ?_); rintro e w' ⟨rfl, ⟨nd, rfl⟩⟩; refine ⟨_, rfl, ?_⟩))
   all_goals (go_ret; exact ⟨eF, by repeat (first | exact Drawn0.refl _ | apply Drawn0.step)⟩)
  ·replace c6 := Bool.eq_false_iff.mpr c6
   subst c6
   have H1 : (some (-1)) = some r := by rw [if_neg (show ¬ (false = true) by decide)] at H; exact H
   clear H; have H := H1; clear H1; obtain rfl := Option.some.inj H; go_enter Try.func52, Try.ntmps52
   go_wp2_with (first | ((with_reducible refine gate_callee (f := 62) rfl ?_); refine gL (some 8) Try.func62 #[.int .u64 a0] ?_; (with_reducible refine (cmp_isNaN_uint64.calls a0 true _ A3.out).mono ?_); rintro e w' ⟨rfl, ⟨nd, rfl⟩⟩; refine ⟨_, rfl, ?_⟩) | ((with_reducible refine gate_callee (f := 62) rfl ?_); refine gL (some 10) Try.func62 #[.int .u64 a1] ?_; (with_reducible refine (cmp_isNaN_uint64.calls a1 false _ A4.out).mono ?_); rintro e w' ⟨rfl, ⟨nd, rfl⟩⟩; refine ⟨_, rfl, ?_⟩))
   all_goals (go_ret; exact ⟨eF, by repeat (first | exact Drawn0.refl _ | apply Drawn0.step)⟩)
 ·replace c5 := Bool.eq_false_iff.mpr c5
  subst c5
  have H1 : (if aa = true then (some 1) else (if a0 < a1 then (some (-1)) else (if a0 > a1 then (some 1) else (some 0)))) = some r := by rw [if_neg (show ¬ (false = true) by decide)] at H; exact H
  clear H; have H := H1; clear H1
  by_cases c7 : aa = true
  ·subst c7
   have H1 : (some 1) = some r := by rw [if_pos rfl] at H; exact H
   clear H; have H := H1; clear H1; obtain rfl := Option.some.inj H; go_enter Try.func52, Try.ntmps52
   go_wp2_with (first | ((with_reducible refine gate_callee (f := 62) rfl ?_); refine gL (some 8) Try.func62 #[.int .u64 a0] ?_; (with_reducible refine (cmp_isNaN_uint64.calls a0 false _ A3.out).mono ?_); rintro e w' ⟨rfl, ⟨nd, rfl⟩⟩; refine ⟨_, rfl, ?_⟩) | ((with_reducible refine gate_callee (f := 62) rfl ?_); refine gL (some 10) Try.func62 #[.int .u64 a1] ?_; (with_reducible refine (cmp_isNaN_uint64.calls a1 true _ A4.out).mono ?_); rintro e w' ⟨rfl, ⟨nd, rfl⟩⟩; refine ⟨_, rfl, ?_⟩))
   all_goals (go_ret; exact ⟨eF, by repeat (first | exact Drawn0.refl _ | apply Drawn0.step)⟩)
  ·replace c7 := Bool.eq_false_iff.mpr c7
   subst c7
   have H1 : (if a0 < a1 then (some (-1)) else (if a0 > a1 then (some 1) else (some 0))) = some r := by rw [if_neg (show ¬ (false = true) by decide)] at H; exact H
   clear H; have H := H1; clear H1
   by_cases c8 : a0 < a1
   ·rw [if_pos c8] at H
    have c8b0 : decide (a0 < a1) = true := decide_eq_true c8; clear c8; obtain rfl := Option.some.inj H; go_enter Try.func52, Try.ntmps52
    go_wp2_with (first | ((with_reducible refine gate_callee (f := 62) rfl ?_); refine gL (some 8) Try.func62 #[.int .u64 a0] ?_; (with_reducible refine (cmp_isNaN_uint64.calls a0 false _ A3.out).mono ?_); rintro e w' ⟨rfl, ⟨nd, rfl⟩⟩; refine ⟨_, rfl, ?_⟩) | ((with_reducible refine gate_callee (f := 62) rfl ?_); refine gL (some 10) Try.func62 #[.int .u64 a1] ?_; (with_reducible refine (cmp_isNaN_uint64.calls a1 false _ A4.out).mono ?_); rintro e w' ⟨rfl, ⟨nd, rfl⟩⟩; refine ⟨_, rfl, ?_⟩))
    all_goals (go_ret; exact ⟨eF, by repeat (first | exact Drawn0.refl _ | apply Drawn0.step)⟩)
   ·rw [if_neg c8] at H
    have c8b0 : decide (a0 < a1) = false := decide_eq_false c8; clear c8
    by_cases c9 : a0 > a1
    ·rw [if_pos c9] at H
     have c9b0 : decide (a1 < a0) = true := decide_eq_true c9; clear c9; obtain rfl := Option.some.inj H; go_enter Try.func52, Try.ntmps52
     go_wp2_with (first | ((with_reducible refine gate_callee (f := 62) rfl ?_); refine gL (some 8) Try.func62 #[.int .u64 a0] ?_; (with_reducible refine (cmp_isNaN_uint64.calls a0 false _ A3.out).mono ?_); rintro e w' ⟨rfl, ⟨nd, rfl⟩⟩; refine ⟨_, rfl, ?_⟩) | ((with_reducible refine gate_callee (f := 62) rfl ?_); refine gL (some 10) Try.func62 #[.int .u64 a1] ?_; (with_reducible refine (cmp_isNaN_uint64.calls a1 false _ A4.out).mono ?_); rintro e w' ⟨rfl, ⟨nd, rfl⟩⟩; refine ⟨_, rfl, ?_⟩))
     all_goals (go_ret; exact ⟨eF, by repeat (first | exact Drawn0.refl _ | apply Drawn0.step)⟩)
    ·rw [if_neg c9] at H
     have c9b0 : decide (a1 < a0) = false := decide_eq_false c9; clear c9; obtain rfl := Option.some.inj H; go_enter Try.func52, Try.ntmps52
     go_wp2_with (first | ((with_reducible refine gate_callee (f := 62) rfl ?_); refine gL (some 8) Try.func62 #[.int .u64 a0] ?_; (with_reducible refine (cmp_isNaN_uint64.calls a0 false _ A3.out).mono ?_); rintro e w' ⟨rfl, ⟨nd, rfl⟩⟩; refine ⟨_, rfl, ?_⟩) | ((with_reducible refine gate_callee (f := 62) rfl ?_); refine gL (some 10) Try.func62 #[.int .u64 a1] ?_; (with_reducible refine (cmp_isNaN_uint64.calls a1 false _ A4.out).mono ?_); rintro e w' ⟨rfl, ⟨nd, rfl⟩⟩; refine ⟨_, rfl, ?_⟩))
     all_goals (go_ret; exact ⟨eF, by repeat (first | exact Drawn0.refl _ | apply Drawn0.step)⟩)

/-! ### cmp_Or_int: function 104 -/
def cmp_Or_int.l0 : Nat → Int → List Int → Int → Int → Option (Int)
 | 0, _, _, _, _ => none
 | k + 1, x3, x6, x7, x8 => if x8 < x7 then (if 0 ≤ x8 then (if x8 < (x6.length : Int) then (if (rd x6 x8) = x3 then (cmp_Or_int.l0 k x3 x6 x7 (wrap64 (x8 + 1))) else (some (rd x6 x8))) else (none)) else (none)) else (some x3)
def cmp_Or_int.f (k : Nat) (l0 : List Int) : Option (Int) := cmp_Or_int.l0 k 0 l0 (l0.length : Int) 0
theorem cmp_Or_int.mono_l : ∀ k, (∀ y0 y1 y2 y3, LeO (cmp_Or_int.l0 k y0 y1 y2 y3) (cmp_Or_int.l0 (k + 1) y0 y1 y2 y3))
 | 0 => fun _ _ _ _ r h => by simp [cmp_Or_int.l0] at h
 | k + 1 => by
  have ih0 := cmp_Or_int.mono_l k
  ·intro y0 y1 y2 y3
   unfold cmp_Or_int.l0
   with_reducible repeat' first | apply ih0 | apply LeO.refl | apply LeO.none | refine LeO.ite ?_ ?_ | refine LeO.bind ?_ (fun _ => ?_)
theorem cmp_Or_int.mono : ∀ a0 k, LeO (cmp_Or_int.f k a0) (cmp_Or_int.f (k + 1) a0) := by
 intro a0 k
 have ih0 := cmp_Or_int.mono_l k
 unfold cmp_Or_int.f
 with_reducible repeat' first | apply ih0 | apply LeO.refl | apply LeO.none | refine LeO.ite ?_ ?_ | refine LeO.bind ?_ (fun _ => ?_)
set_option maxHeartbeats 8000000 in
set_option maxRecDepth 100000 in
theorem cmp_Or_int.calls (k : Nat) (A0 : Option Addr) (c0 : Nat) (l0 : List Int) (r : Int) (w : World) (af : Kd.C (Kd.int .i64) w A0 l0.length l0) (ag : l0.length ≤ c0) (h : cmp_Or_int.f k l0 = some r) :
  Calls Try.prog 104 #[.slice A0 l0.length c0] w fun e w' => e = .returned (.int .i64 r) ∧ Drawn0 w w' := by
 have ah := aaM af
 have al := aaM ag
 clear af ag
 have H : (cmp_Or_int.l0 k 0 l0 (l0.length : Int) 0) = some r := h
 clear h
 have H' := aaM H
 clear H
 go_enter Try.func104, Try.ntmps104
 go_wp2
 go_loopg [8] k (fun kq v8 w' => ∃ (aa : Int), v8 = .int .i64 aa ∧ Aside0 (cmp_Or_int.l0 kq 0 l0 (l0.length : Int) aa = some r) ∧ Aside0 (kq ≤ k) ∧ Drawn0 w w')
 case atStart => exact ⟨(0), (eF), H', ⟨Nat.le_refl _⟩, by repeat (first | exact Drawn0.refl _ | apply Drawn0.step)⟩
 case round =>
  clear H'; obtain ⟨aa, rfl, HA, ai, ⟨m1, rfl⟩⟩ := hrel
  cases gk with
  | zero => exact absurd HA.out (by simp [cmp_Or_int.l0])
  | succ k1 =>
   have H := HA.out; clear HA; simp only [cmp_Or_int.l0] at H
   by_cases c2 : aa < (l0.length : Int)
   ·rw [if_pos c2] at H
    have c2b0 : decide (aa < (l0.length : Int)) = true := decide_eq_true c2; clear c2
    by_cases c3 : 0 ≤ aa
    ·rw [if_pos c3] at H
     have c3b0 : decide (0 ≤ aa) = true := decide_eq_true c3; clear c3
     by_cases c4 : aa < (l0.length : Int)
     ·rw [if_pos c4] at H
      have c4b0 : decide (aa < (l0.length : Int)) = true := decide_eq_true c4; clear c4
      by_cases c5 : (rd l0 aa) = 0
      ·rw [if_pos c5] at H
       have c5b0 : ((rd l0 aa) == 0) = true := beq_iff_eq.mpr c5; have c5b1 : ((rd l0 aa) != 0) = false := bne_eq_false_iff_eq.mpr c5; clear c5; have H' := aaM H; clear H; have ab : 0 ≤ (aa : Int) := of_decide_eq_true (by first | (with_reducible assumption) | assumption); have ac : aa < (l0.length : Int) := of_decide_eq_true (by first | (with_reducible assumption) | assumption); obtain ⟨aj, ae, ak⟩ := Kd.at_int ah.out aa ab ac
       cases ae
       replace ab := eq_true ab; replace ac := eq_true ac; go_wp2
       go_roundg k1
       case measure => have := ai.out; omega
       case rel => exact ⟨(wrap64 (aa + 1)), (eF), H', ⟨by have := ai.out; omega⟩, by repeat (first | exact Drawn0.refl _ | apply Drawn0.step)⟩
      ·rw [if_neg c5] at H
       have c5b0 : ((rd l0 aa) == 0) = false := beq_eq_false_iff_ne.mpr c5; have c5b1 : ((rd l0 aa) != 0) = true := bne_iff_ne.mpr c5; obtain rfl := Option.some.inj H; have ab : 0 ≤ (aa : Int) := of_decide_eq_true (by first | (with_reducible assumption) | assumption); have ac : aa < (l0.length : Int) := of_decide_eq_true (by first | (with_reducible assumption) | assumption); obtain ⟨aj, ae, ak⟩ := Kd.at_int ah.out aa ab ac
       cases ae
       replace ab := eq_true ab; replace ac := eq_true ac; go_wp2
       all_goals (go_ret; exact ⟨eF, by repeat (first | exact Drawn0.refl _ | apply Drawn0.step)⟩)
     ·rw [if_neg c4] at H
      exact absurd H (by simp)
    ·rw [if_neg c3] at H
     exact absurd H (by simp)
   ·rw [if_neg c2] at H
    have c2b0 : decide (aa < (l0.length : Int)) = false := decide_eq_false c2; clear c2; obtain rfl := Option.some.inj H; go_wp2
    all_goals (go_ret; exact ⟨eF, by repeat (first | exact Drawn0.refl _ | apply Drawn0.step)⟩)

/-! ### prod_Cmp: function 101 -/
def prod_Cmp.f (k : Nat) (a0_0 : Int) (a0_1 : Int) (a1_0 : Int) (a1_1 : Int) : Option (Int) := (cmp_Compare_uint64.f a0_0 a1_0).bind fun t165 => ((cmp_Compare_uint64.f a0_1 a1_1).bind fun t166 => ((cmp_Or_int.f k (([t165, t166] : List Int))).bind fun t170 => (some t170)))
theorem prod_Cmp.mono : ∀ a0 a1 a2 a3 k, LeO (prod_Cmp.f k a0 a1 a2 a3) (prod_Cmp.f (k + 1) a0 a1 a2 a3) := by
 intro a0 a1 a2 a3 k
 unfold prod_Cmp.f
 with_reducible repeat' first | apply cmp_Or_int.mono | apply LeO.refl | apply LeO.none | refine LeO.ite ?_ ?_ | refine LeO.bind ?_ (fun _ => ?_)
def prod_Cmp.T1 : Bool × List (List Nat × List Nat) := (true, [([], []), ([0], [0]), ([], []), ([2], [2]), ([1, 3], [1, 3]), ([], []), ([5], [5]), ([], []), ([7], [7]), ([6, 8, 4], [6, 8]), ([4, 9], [4, 9]), ([10, 9], [10]), ([11, 11, 0, 1, 2, 3, 4, 5, 6, 7, 8, 9, 10, 11], [11])])
def prod_Cmp.B1 : List Nat := [0, 1, 0, 4, 15, 0, 32, 0, 128, 511, 1023, 2047, 4095]
theorem prod_Cmp.tab1 : rtab .any (opsOf Try.f101 1) = prod_Cmp.T1 := by kernel_rfl
theorem prod_Cmp.bits1 : waitsOk prod_Cmp.T1.2 prod_Cmp.B1 = true := by kernel_rfl
set_option maxHeartbeats 8000000 in
set_option maxRecDepth 100000 in
theorem prod_Cmp.calls (k : Nat) (ah : Int) (ae : Int) (ai : Int) (af : Int) (r : Int) (w : World) (h : prod_Cmp.f k ah ae ai af = some r) :
  Calls Try.prog 101 #[.agg #[.int .u64 ah, .int .u64 ae], .agg #[.int .u64 ai, .int .u64 af]] w fun e w' => e = .returned (.int .i64 r) ∧ Below w.heap.size w w' := by
 have a7 := Try.underlying30
 have HB := aaM (Below.refl w.heap.size w)
 have H : ((cmp_Compare_uint64.f ah ai).bind fun ab => ((cmp_Compare_uint64.f ae af).bind fun aa => ((cmp_Or_int.f k (([ab, aa] : List Int))).bind fun ac => (some ac)))) = some r := h
 clear h
 replace H := ooB.mp H
 obtain ⟨ab, ap, H⟩ := H
 (try dsimp only at H)
 have A3 := aaM ap
 clear ap
 replace H := ooB.mp H
 obtain ⟨aa, aq, H⟩ := H
 (try dsimp only at H)
 have A4 := aaM aq
 clear aq
 obtain ⟨am, aj⟩ : ∃ y_ : List Int, y_ = (([ab, aa] : List Int)) := ⟨_, rfl⟩
 replace H : ((cmp_Or_int.f k am).bind fun ac => (some ac)) = some r := by first | (rw [aj]; with_reducible exact H) | (have an := (Option.bind_some _ _).symm.trans H; rw [aj]; with_reducible exact an) | (have an := (Option.bind_some _ _).symm.trans H; with_reducible exact an) | with_reducible exact H | (rw [aj]; exact H) | exact H
 have ar := aaM aj
 clear aj
 replace H := ooB.mp H
 obtain ⟨ac, au, H⟩ := H
 (try dsimp only at H)
 have A5 := aaM au
 clear au
 obtain rfl := Option.some.inj H
 go_enter Try.func101, Try.ntmps101
 try go_wp2_with (first | ((with_reducible refine gate_dst (N := 2) rfl ?_); refine bxF w HB 2 #[.int .u64 ah, .int .u64 ae] 30 ?_; intro av hg w6 hb ag HB a0; have a8 := a0; clear hb hg) | ((with_reducible refine gate_dst (N := 3) rfl ?_); refine bxF w HB 3 #[.int .u64 ai, .int .u64 af] 30 ?_; intro aw hg w7 hb ak HB a1; have a9 := a1; obtain ⟨ba, bb⟩ := nS hg ag; replace ag := bY hb ag; clear hb hg))
 replace ag := aaM (bD ag.out)
 replace ak := aaM (bD ak.out)
 replace HB := aaM (lD HB.out)
 refine start_ (n := 13) (S := fun w' => w'.cell? ⟨av, 0, none⟩ = some (.int .u64 ah) ∧ w'.cell? ⟨av, 1, none⟩ = some (.int .u64 ae) ∧ w'.cell? ⟨aw, 0, none⟩ = some (.int .u64 ai) ∧ w'.cell? ⟨aw, 1, none⟩ = some (.int .u64 af)) (ds := []) _ (by kernel_rfl) rfl rfl hD (fun hHeld => ?_); refine with_tabW prod_Cmp.tab1 prod_Cmp.bits1 (fun HT_ HW_ => ?_)
 generalize w7.drew = w8 at ag ak HB hHeld ⊢
 refine pU 0 5 (qB 13 1) HT_ ?_
 refine pU 2 7 (qB 13 5) HT_ ?_
 refine pU 5 10 (qB 13 37) HT_ ?_
 refine pU 7 12 (qB 13 165) HT_ ?_
 refine tU 1 6 (qB 13 167) HT_ HW_ hHeld ?_
 refine tU 3 8 (qB 13 175) HT_ HW_ hHeld ?_
 refine tU 6 11 (qB 13 239) HT_ HW_ hHeld ?_
 refine tU 8 13 (qB 13 495) HT_ HW_ hHeld ?_
 refine oU 4 (some 9) (qB 13 511) HT_ (fun K hK => ?_)
 refine gU Try.func52 #[.int .u64 ah, .int .u64 ai] ?_
 with_reducible refine (cmp_Compare_uint64.calls ah ai ab _ A3.out).mono ?_
 rintro e w' ⟨rfl, ⟨nd, rfl⟩⟩
 refine ⟨_, rfl, ?_⟩
 refine hK.out _ _ hD (fun hHeld => ?_)
 clear hK K
 refine nU 9 ?_
 refine oU 9 (some 14) (qB 13 1023) HT_ (fun K hK => ?_)
 refine gU Try.func52 #[.int .u64 ae, .int .u64 af] ?_
 with_reducible refine (cmp_Compare_uint64.calls ae af aa _ A4.out).mono ?_
 rintro e w' ⟨rfl, ⟨nd, rfl⟩⟩
 refine ⟨_, rfl, ?_⟩
 refine hK.out _ _ hD (fun hHeld => ?_)
 clear hK K
 refine nU 14 ?_
 refine oU 10 (some 15) (qB 13 2047) HT_ (fun K hK => ?_)
 refine Kd.R_lit_step (Kd.int .i64) _ 3 ?hg (N := 15) ?hd (xs := ([ab, aa] : List Int)) (inner := [.int .i64 ab, .int .i64 aa]) (ok := fun _ => True) (okp := fun _ => True) ?hr ?hp (fun _ hk => hk) trivial (Below.refl _ _) (Nat.le_refl _) (by simp) ?_; (case hd => rfl); (case hg => rfl); (case hr => first | (go_simp; done) | (go_simp; rfl)); (case hp => exact (Reps.one (show Kd.M (Kd.int .i64) _ _ _ ab [.int .i64 ab] from rfl) (Reps.one (show Kd.M (Kd.int .i64) _ _ _ aa [.int .i64 aa] from rfl) (Reps.none _ _))))
 intro bc w9 al hb hg_ hnew_
 clear hg_ hnew_
 (first | rw [← ar.out] at al | (simp only [Int.reduceToNat] at al; rw [← ar.out] at al))
 have ao := aaM (Kd.R_lower al (lZ (lB HB)))
 replace ag := bY hb ag
 replace ak := bY hb ak
 replace HB := aaM (lP (lB HB) hb)
 clear hb al
 obtain ⟨a2, a3, ax⟩ := Kd.R_slice ao.out
 (first | subst ax | (injection ax with ay a4 az; have a5 := ay.symm; have a6 := az.symm; clear ay a4 az; subst a5; subst a6))
 refine hK.out _ _ hD (fun hHeld => ?_)
 clear hK K
 refine nU 15 ?_
 refine oU 11 (some 16) (qB 13 4095) HT_ (fun K hK => ?_)
 refine gU Try.func104 #[.slice a2 am.length a3] ?_
 with_reducible refine (cmp_Or_int.calls k _ _ am ac _ ?side1 ?side2 A5.out).mono ?_
 (case side1 => repeat (first | exact (Kd.R_reads' ao.out).2.2 | (with_reducible refine ccA ?_ _) | (with_reducible refine ccN ?_ _) | (with_reducible refine ccD ?_)))
 (case side2 => exact (Kd.R_reads' ao.out).2.1)
 rintro e w' ⟨rfl, ⟨nd, rfl⟩⟩
 refine ⟨_, rfl, ?_⟩
 refine hK.out _ _ hD (fun hHeld => ?_)
 clear hK K
 refine nU 16 ?_
 refine pU 12 4 (qB 13 8191) HT_ ?_
 refine done_ (done_of HT_.out (by kernel_rfl)) ?_
 try go_wp2
 all_goals (go_ret; exact ⟨by first | rfl | (simp [errW_none, errW_some] <;> rfl) | (simp [*, errW_none, errW_some] <;> rfl) | (simp_all; done), lB HB⟩)

/-! ### spread_bound: function 102 -/
def spread_bound.f (a0_0 : Int) (a0_1 : Int) (a0_2 : Int) : Option (Int × Int) := (prod_Mul.f (IntKind.u64.wrap (a0_0)) (IntKind.u64.wrap (a0_2))).bind fun bt173 => (some (bt173.1, bt173.2))
set_option maxHeartbeats 8000000 in
set_option maxRecDepth 100000 in
theorem spread_bound.calls (aa : Int) (af : Int) (ab : Int) (r1 : Int) (r2 : Int) (w : World) (h : spread_bound.f aa af ab = some (r1, r2)) :
  Calls Try.prog 102 #[.agg #[.int .i64 aa, .int .i64 af, .int .i64 ab]] w fun e w' => e = .returned (.agg #[.int .u64 r1, .int .u64 r2]) ∧ Below w.heap.size w w' := by
 have ap := Try.underlying54
 have aq := Try.underlying30
 have HB := aaM (Below.refl w.heap.size w)
 have H : ((prod_Mul.f (IntKind.u64.wrap (aa)) (IntKind.u64.wrap (ab))).bind fun ai => (some (ai.1, ai.2))) = some (r1, r2) := h
 clear h
 replace H := ooB.mp H
 obtain ⟨⟨ag, ah⟩, aj, H⟩ := H
 (try dsimp only at H)
 have A2 := aaM aj
 clear aj
 simp only [Option.some.injEq, Prod.mk.injEq] at H
 obtain ⟨rfl, rfl⟩ := H
 go_enter Try.func102, Try.ntmps102
 go_wp2_with (first | ((with_reducible refine gate_dst (N := 1) rfl ?_); refine bxF w HB 1 #[.int .i64 aa, .int .i64 af, .int .i64 ab] 54 ?_; intro ar hg w3 hb ac HB ak; have au := ak; clear hb hg) | ((with_reducible refine gate_dst (N := 2) rfl ?_); refine bxF w HB 2 #[.int .u64 0, .int .u64 0] 30 ?_; intro al hg w4 hb ae HB am; have av := am; obtain ⟨an, ao⟩ := nS hg ac; replace ac := bY hb ac; clear hb hg; have := an.out; have := ao.out; obtain ⟨_, _, _, _, _, _⟩ := bE3 ac.out) | ((with_reducible refine gate_callee (f := 87) rfl ?_); refine gL (some 9) Try.func87 #[.int .u64 (IntKind.u64.wrap (aa)), .int .u64 (IntKind.u64.wrap (ab))] ?_; (with_reducible refine (prod_Mul.calls (IntKind.u64.wrap (aa)) (IntKind.u64.wrap (ab)) ag ah _ A2.out).mono ?_); rintro e w7 ⟨rfl, hb⟩; refine ⟨_, rfl, ?_⟩; replace ac := bY hb ac; replace ae := bY hb ae; replace HB := aaM (lP (lB HB) hb); (try clear hb); obtain ⟨_, _, _, _⟩ := bE2 ae.out))
 refine bodyPost_ret (results_cell_row rfl _ _ al 30 #[.int .u64 ag, .int .u64 ah] (0, 0) _ rfl (bZ ae) Try.underlying30 rfl (by kernel_rfl)) rfl ?_
 exact ⟨eE, lB HB⟩

/-! ### spread_May: function 96 -/
mutual
def spread_May.j0 : Nat → Bool → Int → Int → Int → Option (Bool)
 | 0, _, _, _, _ => none
 | k + 1, x26, x176000, x176001, x176002 => if x26 = true then (some false) else (if x176001 > (wrap64 (1048576 * x176000)) then (spread_May.j1 k true x176000 x176001 x176002) else (spread_May.j1 k (decide (x176001 < (wrap64 ((-1048576) * x176000)))) x176000 x176001 x176002))
def spread_May.j1 : Nat → Bool → Int → Int → Int → Option (Bool)
 | 0, _, _, _, _ => none
 | k + 1, x40, x176000, x176001, x176002 => if x40 = true then (some false) else ((prod_Square.f x176001).bind fun bt179 => ((spread_bound.f x176000 x176001 x176002).bind fun bt181 => ((prod_Cmp.f k bt179.1 bt179.2 bt181.1 bt181.2).bind fun t183 => (some (decide (t183 ≤ 0))))))
end
def spread_May.f (k : Nat) (a0_0 : Int) (a0_1 : Int) (a0_2 : Int) : Option (Bool) := (spread_none.f).bind fun bt176 => (if (a0_0 == bt176.1 && (a0_1 == bt176.2.1 && (a0_2 == bt176.2.2))) = true then (some true) else (if a0_0 < 1 then (spread_May.j0 k true a0_0 a0_1 a0_2) else (if a0_0 > 1048576 then (spread_May.j0 k true a0_0 a0_1 a0_2) else (if a0_2 < 0 then (spread_May.j0 k true a0_0 a0_1 a0_2) else (spread_May.j0 k (decide (a0_2 > (wrap64 (1099511627776 * a0_0)))) a0_0 a0_1 a0_2)))))
theorem spread_May.mono_l : ∀ k, (∀ y0 y1 y2 y3, LeO (spread_May.j0 k y0 y1 y2 y3) (spread_May.j0 (k + 1) y0 y1 y2 y3)) ∧ (∀ y0 y1 y2 y3, LeO (spread_May.j1 k y0 y1 y2 y3) (spread_May.j1 (k + 1) y0 y1 y2 y3))
 | 0 => ⟨fun _ _ _ _ r h => by simp [spread_May.j0] at h, fun _ _ _ _ r h => by simp [spread_May.j1] at h⟩
 | k + 1 => by
  obtain ⟨ih0, ih1⟩ := spread_May.mono_l k
  refine ⟨?_, ?_⟩
  all_goals (intros; first | unfold spread_May.j0 | unfold spread_May.j1)
  all_goals with_reducible repeat' first | apply ih0 | apply ih1 | apply prod_Cmp.mono | apply LeO.refl | apply LeO.none | refine LeO.ite ?_ ?_ | refine LeO.bind ?_ (fun _ => ?_)
theorem spread_May.mono : ∀ a0 a1 a2 k, LeO (spread_May.f k a0 a1 a2) (spread_May.f (k + 1) a0 a1 a2) := by
 intro a0 a1 a2 k
 obtain ⟨ih0, ih1⟩ := spread_May.mono_l k
 unfold spread_May.f
 with_reducible repeat' first | apply ih0 | apply ih1 | apply prod_Cmp.mono | apply LeO.refl | apply LeO.none | refine LeO.ite ?_ ?_ | refine LeO.bind ?_ (fun _ => ?_)
def spread_May.T7 : Bool × List (List Nat × List Nat) := (true, [([], []), ([0], [0]), ([1], [1]), ([], []), ([3, 2], [3]), ([2, 4, 4], [2, 4]), ([5], [5]), ([6, 5, 0, 1, 2, 3, 4, 5, 6], [6])])
def spread_May.B7 : List Nat := [0, 1, 3, 0, 15, 31, 63, 127]
theorem spread_May.tab7 : rtab .any (opsOf Try.f96 7) = spread_May.T7 := by kernel_rfl
theorem spread_May.bits7 : waitsOk spread_May.T7.2 spread_May.B7 = true := by kernel_rfl
set_option maxHeartbeats 8000000 in
set_option maxRecDepth 100000 in
theorem spread_May.calls (k : Nat) (aa : Int) (ab : Int) (ac : Int) (r : Bool) (w : World) (h : spread_May.f k aa ab ac = some r) :
  Calls Try.prog 96 #[.agg #[.int .i64 aa, .int .i64 ab, .int .i64 ac]] w fun e w' => e = .returned (.bool r) ∧ Below w.heap.size w w' := by
 have cl := Try.underlying54
 have HB := aaM (Below.refl w.heap.size w)
 have H : ((spread_none.f).bind fun a1 => (if (aa == a1.1 && (ab == a1.2.1 && (ac == a1.2.2))) = true then (some true) else (if aa < 1 then (spread_May.j0 k true aa ab ac) else (if aa > 1048576 then (spread_May.j0 k true aa ab ac) else (if ac < 0 then (spread_May.j0 k true aa ab ac) else (spread_May.j0 k (decide (ac > (wrap64 (1099511627776 * aa)))) aa ab ac)))))) = some r := h
 clear h
 replace H := ooB.mp H
 obtain ⟨⟨ag, ah, ai⟩, a6, H⟩ := H
 (try dsimp only at H)
 have A2 := aaM a6
 clear a6
 by_cases c3 : (aa == ag && (ab == ah && (ac == ai))) = true
 ·rw [if_pos c3] at H
  have c3b0 : (aa == ag && (ab == ah && (ac == ai))) = true := c3; (try (have c3b1 : decide (aa = ag && (ab == ah && (ac == ai))) = true := by simpa using c3)); (try (have c3b2 : (aa == ag && (ab == ah && (ac == ai))) = true := by simpa using c3)); clear c3; obtain rfl := Option.some.inj H; go_enter Try.func96, Try.ntmps96; (try go_wp2_with (first | ((with_reducible refine gate_dst (N := 1) rfl ?_); refine bxF w HB 1 #[.int .i64 aa, .int .i64 ab, .int .i64 ac] 54 ?_; intro af hg w4 hb ae HB a2; have b2 := a2; clear hb hg))); replace ae := aaM (bD ae.out); replace HB := aaM (lD HB.out); refine start_ (n := 3) (S := fun w' => w'.cell? ⟨af, 0, none⟩ = some (.int .i64 aa) ∧ w'.cell? ⟨af, 1, none⟩ = some (.int .i64 ab) ∧ w'.cell? ⟨af, 2, none⟩ = some (.int .i64 ac)) (ds := []) _ (by kernel_rfl) rfl rfl hD (fun hHeld => ?_); generalize w4.drew = w5 at ae HB hHeld ⊢; refine take_ (i := 0) (N := some 3) (v := ?_) (a' := ?_) #[true, false, false] rfl rfl (by kernel_rfl) (fun _ _ _ h => h) (Or.inl ⟨by rfl, ?_⟩) hHeld ?_ ?_; rotate_left
  ·rintro w' ⟨s0, s1, s2⟩
   go_simp; (with_reducible rfl)
  rotate_left
  ·simp only [Act.put, ssB, ssZ, ssS, i64_w, i32_w]
   rfl
  refine one_ (i := 1) (N := some 4) #[true, true, false] rfl rfl (by kernel_rfl) (by decide) (fun K hK => ?_); refine gU Try.func100 #[] ?_; (with_reducible refine (spread_none.calls  ag ah ai _ A2.out).mono ?_); rintro e w6 ⟨rfl, hb⟩; refine ⟨_, rfl, ?_⟩; replace ae := bY hb ae; replace HB := aaM (lP (lB HB) hb); (try clear hb); refine hK.out _ _ hD (fun hHeld => ?_); clear hK K; refine nU 4 ?_
  refine pure_ (i := 2) (N := some 5) (v := ?_) (a' := ?_) #[true, true, true] rfl rfl (by kernel_rfl) (fun _ _ _ h => h) (Or.inl ⟨by rfl, ?_⟩) ?_ ?_; rotate_left
  ·intro w'
   go_simp; (with_reducible rfl)
  rotate_left
  ·simp only [Act.put, ssB, ssZ, ssS, i64_w, i32_w]
   rfl
  refine done_ (by kernel_rfl) ?_; (try go_wp2)
  all_goals (go_ret; exact ⟨by first | rfl | (simp [errW_none, errW_some] <;> rfl) | (simp [*, errW_none, errW_some] <;> rfl) | (simp_all; done), lB HB⟩)
 ·rw [if_neg c3] at H
  have c3b0 : (aa == ag && (ab == ah && (ac == ai))) = false := by simpa using c3
  (try (have c3b1 : decide (aa = ag && (ab == ah && (ac == ai))) = false := by simpa using c3)); (try (have c3b2 : (aa == ag && (ab == ah && (ac == ai))) = false := by simpa using c3)); (try (have c3b3 : ¬ (aa = ag && (ab == ah && (ac == ai))) := by simpa using c3)); clear c3; have a3 := aaM H; clear H; go_enter Try.func96, Try.ntmps96; (try go_wp2_with (first | ((with_reducible refine gate_dst (N := 1) rfl ?_); refine bxF w HB 1 #[.int .i64 aa, .int .i64 ab, .int .i64 ac] 54 ?_; intro af hg w8 hb ae HB a2; have b2 := a2; clear hb hg))); replace ae := aaM (bD ae.out); replace HB := aaM (lD HB.out); refine start_ (n := 3) (S := fun w' => w'.cell? ⟨af, 0, none⟩ = some (.int .i64 aa) ∧ w'.cell? ⟨af, 1, none⟩ = some (.int .i64 ab) ∧ w'.cell? ⟨af, 2, none⟩ = some (.int .i64 ac)) (ds := []) _ (by kernel_rfl) rfl rfl hD (fun hHeld => ?_); generalize w8.drew = w9 at ae HB hHeld ⊢; refine take_ (i := 0) (N := some 3) (v := ?_) (a' := ?_) #[true, false, false] rfl rfl (by kernel_rfl) (fun _ _ _ h => h) (Or.inl ⟨by rfl, ?_⟩) hHeld ?_ ?_; rotate_left
  ·rintro w' ⟨s0, s1, s2⟩
   go_simp; (with_reducible rfl)
  rotate_left
  ·simp only [Act.put, ssB, ssZ, ssS, i64_w, i32_w]
   rfl
  refine one_ (i := 1) (N := some 4) #[true, true, false] rfl rfl (by kernel_rfl) (by decide) (fun K hK => ?_); refine gU Try.func100 #[] ?_; (with_reducible refine (spread_none.calls  ag ah ai _ A2.out).mono ?_); rintro e cm ⟨rfl, hb⟩; refine ⟨_, rfl, ?_⟩; replace ae := bY hb ae; replace HB := aaM (lP (lB HB) hb); (try clear hb); refine hK.out _ _ hD (fun hHeld => ?_); clear hK K; refine nU 4 ?_
  refine pure_ (i := 2) (N := some 5) (v := ?_) (a' := ?_) #[true, true, true] rfl rfl (by kernel_rfl) (fun _ _ _ h => h) (Or.inl ⟨by rfl, ?_⟩) ?_ ?_; rotate_left
  ·intro w'
   go_simp; (with_reducible rfl)
  rotate_left
  ·simp only [Act.put, ssB, ssZ, ssS, i64_w, i32_w]
   rfl
  refine done_ (by kernel_rfl) ?_
  go_upto_region 3 with (fail)
  go_cut [26] (fun b3 wc => ∃ (kq : Nat) (av : Bool), b3 = .bool av ∧ Aside0 (spread_May.j0 kq av aa ab ac = some r) ∧ Aside0 (kq ≤ k) ∧ Aside0 (wc.heap[af]? = some (.cells #[.int .i64 aa, .int .i64 ab, .int .i64 ac] 54 (0, 0))) ∧ Aside0 (Below w.heap.size w wc))
  case first =>
   have H := a3.out; clear a3
   by_cases aj : aa < 1
   ·rw [if_pos aj] at H
    have c11b0 : decide (aa < 1) = true := decide_eq_true aj; clear aj; (first | rw [c11b0] | (simp only [i64_w, i32_w]; rw [c11b0]) | skip); have H' := aaM H; clear H; obtain ⟨a7, a8, a9, ba, bb, bc⟩ := bE3 ae.out; go_wp2
    go_meet
    case rel => exact ⟨_, (true), (eF), H', ⟨by first | omega | exact Nat.le_refl _⟩, ⟨bZ ae⟩, ⟨lB HB⟩⟩
   ·rw [if_neg aj] at H
    have c11b0 : decide (aa < 1) = false := decide_eq_false aj; clear aj; (first | rw [c11b0] | (simp only [i64_w, i32_w]; rw [c11b0]) | skip)
    by_cases ak : aa > 1048576
    ·rw [if_pos ak] at H
     have c13b0 : decide (1048576 < aa) = true := decide_eq_true ak; clear ak; have H' := aaM H; clear H; obtain ⟨bd, be, bf, bg, bh, bi⟩ := bE3 ae.out; go_wp2
     go_meet
     case rel => exact ⟨_, (true), (eF), H', ⟨by first | omega | exact Nat.le_refl _⟩, ⟨bZ ae⟩, ⟨lB HB⟩⟩
    ·rw [if_neg ak] at H
     have c13b0 : decide (1048576 < aa) = false := decide_eq_false ak; clear ak
     by_cases al : ac < 0
     ·rw [if_pos al] at H
      have c15b0 : decide (ac < 0) = true := decide_eq_true al; clear al; have H' := aaM H; clear H; obtain ⟨bj, bk, bl, bm, bn, bo⟩ := bE3 ae.out; go_wp2
      go_meet
      case rel => exact ⟨_, (true), (eF), H', ⟨by first | omega | exact Nat.le_refl _⟩, ⟨bZ ae⟩, ⟨lB HB⟩⟩
     ·rw [if_neg al] at H
      have c15b0 : decide (ac < 0) = false := decide_eq_false al; clear al; have H' := aaM H; clear H; obtain ⟨bp, bq, br, bs, bt, bu⟩ := bE3 ae.out; go_wp2
      go_meet
      case rel => exact ⟨_, (decide (ac > (wrap64 (1099511627776 * aa)))), (eF), H', ⟨by first | omega | exact Nat.le_refl _⟩, ⟨bZ ae⟩, ⟨lB HB⟩⟩
  case rest =>
   clear a3; (try clear c3); (try clear c3b0); (try clear c3b1); (try clear c3b2); obtain ⟨kq, av, rfl, HA, bv, ae, HB⟩ := hcut
   cases kq with
   | zero => exact absurd HA.out (by simp [spread_May.j0])
   | succ a4 =>
    have H := HA.out; clear HA; simp only [spread_May.j0] at H
    by_cases ao : av = true
    ·subst ao
     have H1 : (some false) = some r := by rw [if_pos rfl] at H; exact H
     clear H; have H := H1; clear H1; obtain rfl := Option.some.inj H; go_wp2
     all_goals (go_ret; exact ⟨by first | rfl | (simp [errW_none, errW_some] <;> rfl) | (simp [*, errW_none, errW_some] <;> rfl) | (simp_all; done), lB HB⟩)
    ·replace ao := Bool.eq_false_iff.mpr ao
     subst ao
     have H1 : (if ab > (wrap64 (1048576 * aa)) then (spread_May.j1 a4 true aa ab ac) else (spread_May.j1 a4 (decide (ab < (wrap64 ((-1048576) * aa)))) aa ab ac)) = some r := by rw [if_neg (show ¬ (false = true) by decide)] at H; exact H
     clear H; have H := H1; clear H1; have a5 := aaM H; clear H
     go_upto_region 5 with (fail)
     go_cut [40] (fun b5 wc => ∃ (kq : Nat) (aw : Bool), b5 = .bool aw ∧ Aside0 (spread_May.j1 kq aw aa ab ac = some r) ∧ Aside0 (kq ≤ a4) ∧ Aside0 (wc.heap[af]? = some (.cells #[.int .i64 aa, .int .i64 ab, .int .i64 ac] 54 (0, 0))) ∧ Aside0 (Below w.heap.size w wc))
     case first =>
      have H := a5.out; clear a5
      by_cases an : ab > (wrap64 (1048576 * aa))
      ·rw [if_pos an] at H
       have c20b0 : decide ((wrap64 (1048576 * aa)) < ab) = true := decide_eq_true an; clear an; (first | rw [c20b0] | (simp only [i64_w, i32_w]; rw [c20b0]) | skip); have H' := aaM H; clear H; obtain ⟨b6, b7, b8, b9, ca, cb⟩ := bE3 ae.out; go_wp2
       go_meet
       case rel => exact ⟨_, (true), (eF), H', ⟨by have := bv.out; first | omega | exact Nat.le_refl _⟩, ⟨bZ ae⟩, ⟨lB HB⟩⟩
      ·rw [if_neg an] at H
       have c20b0 : decide ((wrap64 (1048576 * aa)) < ab) = false := decide_eq_false an; clear an; (first | rw [c20b0] | (simp only [i64_w, i32_w]; rw [c20b0]) | skip); have H' := aaM H; clear H; obtain ⟨cc, cd, ce, cf, cg, ch⟩ := bE3 ae.out; go_wp2
       go_meet
       case rel => exact ⟨_, (decide (ab < (wrap64 ((-1048576) * aa)))), (eF), H', ⟨by have := bv.out; first | omega | exact Nat.le_refl _⟩, ⟨bZ ae⟩, ⟨lB HB⟩⟩
     case rest =>
      clear a5; (try clear c3); (try clear c3b0); (try clear c3b1); (try clear c3b2); (try clear ao); obtain ⟨kq, aw, rfl, HA, cn, ae, HB⟩ := hcut
      cases kq with
      | zero => exact absurd HA.out (by simp [spread_May.j1])
      | succ ax =>
       have H := HA.out; clear HA; simp only [spread_May.j1] at H
       by_cases ay : aw = true
       ·subst ay
        have H1 : (some false) = some r := by rw [if_pos rfl] at H; exact H
        clear H; have H := H1; clear H1; obtain rfl := Option.some.inj H; go_wp2
        all_goals (go_ret; exact ⟨by first | rfl | (simp [errW_none, errW_some] <;> rfl) | (simp [*, errW_none, errW_some] <;> rfl) | (simp_all; done), lB HB⟩)
       ·replace ay := Bool.eq_false_iff.mpr ay
        subst ay
        have H1 : ((prod_Square.f ab).bind fun bw => ((spread_bound.f aa ab ac).bind fun ap => ((prod_Cmp.f ax bw.1 bw.2 ap.1 ap.2).bind fun am => (some (decide (am ≤ 0)))))) = some r := by rw [if_neg (show ¬ (false = true) by decide)] at H; exact H
        clear H; have H := H1; clear H1; replace H := ooB.mp H; obtain ⟨⟨aq, ar⟩, bz, H⟩ := H; replace H : ((spread_bound.f aa ab ac).bind fun ap => ((prod_Cmp.f ax aq ar ap.1 ap.2).bind fun am => (some (decide (am ≤ 0))))) = some r := H; have ci := aaM bz; clear bz; replace H := ooB.mp H; obtain ⟨⟨az, a0⟩, b0, H⟩ := H; replace H : ((prod_Cmp.f ax aq ar az a0).bind fun am => (some (decide (am ≤ 0)))) = some r := H; have cj := aaM b0; clear b0; replace H := ooB.mp H; obtain ⟨am, b1, H⟩ := H; replace H : (some (decide (am ≤ 0))) = some r := H; have ck := aaM b1; clear b1; obtain rfl := Option.some.inj H; (try go_wp2); replace ae := aaM (bD ae.out); replace HB := aaM (lD HB.out); refine start_ (n := 8) (S := fun w' => w'.cell? ⟨af, 0, none⟩ = some (.int .i64 aa) ∧ w'.cell? ⟨af, 1, none⟩ = some (.int .i64 ab) ∧ w'.cell? ⟨af, 2, none⟩ = some (.int .i64 ac)) (ds := []) _ (by kernel_rfl) rfl rfl hD (fun hHeld => ?_); refine with_tabW spread_May.tab7 spread_May.bits7 (fun HT_ HW_ => ?_); generalize wc.drew = cp at ae HB hHeld ⊢; refine pU 0 41 (qB 8 1) HT_ ?_
        refine tU 1 42 (qB 8 3) HT_ HW_ hHeld ?_
        refine tU 3 44 (qB 8 11) HT_ HW_ hHeld ?_
        refine oU 2 (some 43) (qB 8 15) HT_ (fun K hK => ?_); refine gU Try.func98 #[.int .i64 ab] ?_; (with_reducible refine (prod_Square.calls ab aq ar _ ci.out).mono ?_); rintro e cq ⟨rfl, hb⟩; refine ⟨_, rfl, ?_⟩; replace ae := bY hb ae; replace HB := aaM (lP (lB HB) hb); (try clear hb); refine hK.out _ _ hD (fun hHeld => ?_); clear hK K; refine nU 43 ?_
        refine oU 4 (some 45) (qB 8 31) HT_ (fun K hK => ?_); refine gU Try.func102 #[.agg #[.int .i64 aa, .int .i64 ab, .int .i64 ac]] ?_; (with_reducible refine (spread_bound.calls aa ab ac az a0 _ cj.out).mono ?_); rintro e cr ⟨rfl, hb⟩; refine ⟨_, rfl, ?_⟩; replace ae := bY hb ae; replace HB := aaM (lP (lB HB) hb); (try clear hb); refine hK.out _ _ hD (fun hHeld => ?_); clear hK K; refine nU 45 ?_
        refine oU 5 (some 46) (qB 8 63) HT_ (fun K hK => ?_); refine gU Try.func101 #[.agg #[.int .u64 aq, .int .u64 ar], .agg #[.int .u64 az, .int .u64 a0]] ?_; (with_reducible refine (prod_Cmp.calls ax aq ar az a0 am _ ck.out).mono ?_); rintro e ct ⟨rfl, hb⟩; refine ⟨_, rfl, ?_⟩; replace ae := bY hb ae; replace HB := aaM (lP (lB HB) hb); (try clear hb); refine hK.out _ _ hD (fun hHeld => ?_); clear hK K; refine nU 46 ?_
        refine pU 6 47 (qB 8 127) HT_ ?_
        refine pU 7 2 (qB 8 255) HT_ ?_
        refine done_ (done_of HT_.out (by kernel_rfl)) ?_; (try go_wp2)
        all_goals (go_ret; exact ⟨by first | rfl | (simp [errW_none, errW_some] <;> rfl) | (simp [*, errW_none, errW_some] <;> rfl) | (simp_all; done), lB HB⟩)

/-! ### spread_there: function 97 -/
def spread_there.f (k : Nat) (a0_0 : Int) (a0_1 : Int) (a0_2 : Int) : Option (Bool) := if a0_0 > 0 then ((spread_May.f k a0_0 a0_1 a0_2).bind fun t185 => (some t185)) else (some false)
theorem spread_there.mono : ∀ a0 a1 a2 k, LeO (spread_there.f k a0 a1 a2) (spread_there.f (k + 1) a0 a1 a2) := by
 intro a0 a1 a2 k
 unfold spread_there.f
 with_reducible repeat' first | apply spread_May.mono | apply LeO.refl | apply LeO.none | refine LeO.ite ?_ ?_ | refine LeO.bind ?_ (fun _ => ?_)
set_option maxHeartbeats 8000000 in
set_option maxRecDepth 100000 in
theorem spread_there.calls (k : Nat) (aa : Int) (ab : Int) (ac : Int) (r : Bool) (w : World) (h : spread_there.f k aa ab ac = some r) :
  Calls Try.prog 97 #[.agg #[.int .i64 aa, .int .i64 ab, .int .i64 ac]] w fun e w' => e = .returned (.bool r) ∧ Below w.heap.size w w' := by
 have ak := Try.underlying54
 have HB := aaM (Below.refl w.heap.size w)
 have H : (if aa > 0 then ((spread_May.f k aa ab ac).bind fun af => (some af)) else (some false)) = some r := h
 clear h
 by_cases c2 : aa > 0
 ·rw [if_pos c2] at H
  have c2b0 : decide (0 < aa) = true := decide_eq_true c2; clear c2; replace H := ooB.mp H; obtain ⟨af, ah, H⟩ := H; (try dsimp only at H); have A3 := aaM ah; clear ah; obtain rfl := Option.some.inj H; go_enter Try.func97, Try.ntmps97
  go_wp2_with (first | ((with_reducible refine gate_dst (N := 1) rfl ?_); refine bxF w HB 1 #[.int .i64 aa, .int .i64 ab, .int .i64 ac] 54 ?_; intro ai hg w4 hb ae HB ag; have aj := ag; clear hb hg; obtain ⟨_, _, _, _, _, _⟩ := bE3 ae.out) | (go_at_call 96; (with_reducible refine (spread_May.calls k aa ab ac af _ A3.out).mono ?_); rintro e w6 ⟨rfl, hb⟩; replace ae := bY hb ae; replace HB := aaM (lP (lB HB) hb); (try clear hb)))
  all_goals (go_ret; exact ⟨by first | rfl | (simp [errW_none, errW_some] <;> rfl) | (simp [*, errW_none, errW_some] <;> rfl) | (simp_all; done), lB HB⟩)
 ·rw [if_neg c2] at H
  have c2b0 : decide (0 < aa) = false := decide_eq_false c2; clear c2; obtain rfl := Option.some.inj H; go_enter Try.func97, Try.ntmps97
  go_wp2_with (first | ((with_reducible refine gate_dst (N := 1) rfl ?_); refine bxF w HB 1 #[.int .i64 aa, .int .i64 ab, .int .i64 ac] 54 ?_; intro ai hg w7 hb ae HB ag; have aj := ag; clear hb hg; obtain ⟨_, _, _, _, _, _⟩ := bE3 ae.out))
  all_goals (go_ret; exact ⟨by first | rfl | (simp [errW_none, errW_some] <;> rfl) | (simp [*, errW_none, errW_some] <;> rfl) | (simp_all; done), lB HB⟩)

/-! ### spread_Alone: function 94 -/
def spread_Alone.f (k : Nat) (a0_0 : Int) (a0_1 : Int) (a0_2 : Int) : Option (Int × Int × Int) := (spread_there.f k a0_0 a0_1 a0_2).bind fun t188 => (if t188 = true then ((prod_Square.f a0_1).bind fun bt189 => (some (bt189.1, bt189.2, IntKind.u64.wrap (a0_0)))) else (some (0, 0, 0)))
theorem spread_Alone.mono : ∀ a0 a1 a2 k, LeO (spread_Alone.f k a0 a1 a2) (spread_Alone.f (k + 1) a0 a1 a2) := by
 intro a0 a1 a2 k
 unfold spread_Alone.f
 with_reducible repeat' first | apply spread_there.mono | apply LeO.refl | apply LeO.none | refine LeO.ite ?_ ?_ | refine LeO.bind ?_ (fun _ => ?_)
def spread_Alone.T3 : Bool × List (List Nat × List Nat) := (true, [([], []), ([0], [0]), ([1], [1]), ([], []), ([3], [3]), ([4], [4]), ([2, 5], [2, 5]), ([6, 2, 0, 1, 2, 3, 4, 5, 6], [6])])
def spread_Alone.B3 : List Nat := [0, 1, 3, 0, 8, 24, 63, 127]
theorem spread_Alone.tab3 : rtab .any (opsOf Try.f94 3) = spread_Alone.T3 := by kernel_rfl
theorem spread_Alone.bits3 : waitsOk spread_Alone.T3.2 spread_Alone.B3 = true := by kernel_rfl
set_option maxHeartbeats 8000000 in
set_option maxRecDepth 100000 in
theorem spread_Alone.calls (k : Nat) (ac : Int) (ae : Int) (af : Int) (r1 : Int) (r2 : Int) (r3 : Int) (w : World) (h : spread_Alone.f k ac ae af = some (r1, r2, r3)) :
  Calls Try.prog 94 #[.agg #[.int .i64 ac, .int .i64 ae, .int .i64 af]] w fun e w' => e = .returned (.agg #[.int .u64 r1, .int .u64 r2, .int .u64 r3]) ∧ Below w.heap.size w w' := by
 have ax := Try.underlying54
 have ay := Try.underlying32
 have HB := aaM (Below.refl w.heap.size w)
 have H : ((spread_there.f k ac ae af).bind fun aj => (if aj = true then ((prod_Square.f ae).bind fun ag => (some (ag.1, ag.2, IntKind.u64.wrap (ac)))) else (some (0, 0, 0)))) = some (r1, r2, r3) := h
 clear h
 replace H := ooB.mp H
 obtain ⟨aj, aq, H⟩ := H
 (try dsimp only at H)
 have A2 := aaM aq
 clear aq
 by_cases c3 : aj = true
 ·subst c3
  have H1 : ((prod_Square.f ae).bind fun ag => (some (ag.1, ag.2, IntKind.u64.wrap (ac)))) = some (r1, r2, r3) := by rw [if_pos rfl] at H; exact H
  clear H; have H := H1; clear H1; replace H := ooB.mp H; obtain ⟨⟨al, am⟩, ar, H⟩ := H; (try dsimp only at H); have A4 := aaM ar; clear ar; simp only [Option.some.injEq, Prod.mk.injEq] at H; obtain ⟨rfl, rfl, rfl⟩ := H; go_enter Try.func94, Try.ntmps94; (try go_wp2_with (first | ((with_reducible refine gate_dst (N := 1) rfl ?_); refine bxF w HB 1 #[.int .i64 ac, .int .i64 ae, .int .i64 af] 54 ?_; intro ak hg w5 hb aa HB an; have av := an; clear hb hg) | ((with_reducible refine gate_dst (N := 2) rfl ?_); refine bxF w HB 2 #[.int .u64 0, .int .u64 0, .int .u64 0] 32 ?_; intro ao hg w6 hb ab HB ap; have aw := ap; obtain ⟨ah, ai⟩ := nS hg aa; replace aa := bY hb aa; clear hb hg; have := ah.out; have := ai.out; obtain ⟨_, _, _, _, _, _⟩ := bE3 aa.out) | ((with_reducible refine gate_callee (f := 97) rfl ?_); refine gL (some 4) Try.func97 #[.agg #[.int .i64 ac, .int .i64 ae, .int .i64 af]] ?_; (with_reducible refine (spread_there.calls k ac ae af true _ A2.out).mono ?_); rintro e w9 ⟨rfl, hb⟩; refine ⟨_, rfl, ?_⟩; replace aa := bY hb aa; replace ab := bY hb ab; replace HB := aaM (lP (lB HB) hb); (try clear hb)))); replace aa := aaM (bD aa.out); replace ab := aaM (bD ab.out); replace HB := aaM (lD HB.out)
  refine start_ (n := 8) (S := fun w' => w'.cell? ⟨ak, 0, none⟩ = some (.int .i64 ac) ∧ w'.cell? ⟨ak, 1, none⟩ = some (.int .i64 ae) ∧ w'.cell? ⟨ak, 2, none⟩ = some (.int .i64 af)) (ds := []) _ (by kernel_rfl) rfl rfl hD (fun hHeld => ?_); refine with_tabW spread_Alone.tab3 spread_Alone.bits3 (fun HT_ HW_ => ?_); generalize w9.drew = az at aa ab HB hHeld ⊢; refine pU 0 7 (qB 8 1) HT_ ?_
  refine pU 3 10 (qB 8 9) HT_ ?_
  refine tU 1 8 (qB 8 11) HT_ HW_ hHeld ?_
  refine tU 4 11 (qB 8 27) HT_ HW_ hHeld ?_
  refine pU 5 12 (qB 8 59) HT_ ?_
  refine oU 2 (some 9) (qB 8 63) HT_ (fun K hK => ?_); refine gU Try.func98 #[.int .i64 ae] ?_; (with_reducible refine (prod_Square.calls ae al am _ A4.out).mono ?_); rintro e a0 ⟨rfl, hb⟩; refine ⟨_, rfl, ?_⟩; replace aa := bY hb aa; replace ab := bY hb ab; replace HB := aaM (lP (lB HB) hb); (try clear hb); refine hK.out _ _ hD (fun hHeld => ?_); clear hK K; refine nU 9 ?_
  refine pU 6 13 (qB 8 127) HT_ ?_
  refine oU 7 none (qB 8 255) HT_ (fun K hK => ?_); obtain ⟨a1, -, -, a2, -, -⟩ := bE3 ab.out; have := ah.out; have := ai.out; obtain ⟨-, a3, -, -, a4, -⟩ := bE3 ab.out; have := ah.out; have := ai.out; obtain ⟨-, -, a5, -, -, a6⟩ := bE3 ab.out; have := ah.out; have := ai.out; refine skip_ (w1 := ?_) (by rfl) rfl ?_ ?_; rotate_left
  ·go_simp
   rfl
  refine hK.out _ _ (cH hHeld) (fun hHeld => ?_); clear hK K; refine done_ (done_of HT_.out (by kernel_rfl)) ?_; (try go_wp2); refine bodyPost_ret (results_cell_row rfl _ _ ao 32 #[.int .u64 al, .int .u64 am, .int .u64 (IntKind.u64.wrap (ac))] (0, 0) _ rfl (bZ ab) Try.underlying32 rfl (by kernel_rfl)) rfl ?_
  exact ⟨eE, lB HB⟩
 ·replace c3 := Bool.eq_false_iff.mpr c3
  subst c3
  have H1 : (some (0, 0, 0)) = some (r1, r2, r3) := by rw [if_neg (show ¬ (false = true) by decide)] at H; exact H
  clear H; have H := H1; clear H1; simp only [Option.some.injEq, Prod.mk.injEq] at H; obtain ⟨rfl, rfl, rfl⟩ := H; go_enter Try.func94, Try.ntmps94
  go_wp2_with (first | ((with_reducible refine gate_dst (N := 1) rfl ?_); refine bxF w HB 1 #[.int .i64 ac, .int .i64 ae, .int .i64 af] 54 ?_; intro ak hg a7 hb aa HB an; have av := an; clear hb hg) | ((with_reducible refine gate_dst (N := 2) rfl ?_); refine bxF w HB 2 #[.int .u64 0, .int .u64 0, .int .u64 0] 32 ?_; intro ao hg a8 hb ab HB ap; have aw := ap; obtain ⟨ah, ai⟩ := nS hg aa; replace aa := bY hb aa; clear hb hg; have := ah.out; have := ai.out; obtain ⟨_, _, _, _, _, _⟩ := bE3 aa.out) | ((with_reducible refine gate_callee (f := 97) rfl ?_); refine gL (some 4) Try.func97 #[.agg #[.int .i64 ac, .int .i64 ae, .int .i64 af]] ?_; (with_reducible refine (spread_there.calls k ac ae af false _ A2.out).mono ?_); rintro e a9 ⟨rfl, hb⟩; refine ⟨_, rfl, ?_⟩; replace aa := bY hb aa; replace ab := bY hb ab; replace HB := aaM (lP (lB HB) hb); (try clear hb); obtain ⟨_, _, _, _, _, _⟩ := bE3 ab.out))
  refine bodyPost_ret (results_cell_row rfl _ _ ao 32 #[.int .u64 0, .int .u64 0, .int .u64 0] (0, 0) _ rfl (bZ ab) Try.underlying32 rfl (by kernel_rfl)) rfl ?_
  exact ⟨eE, lB HB⟩

/-! ### split_means_alone: function 91 -/
def split_means_alone.f (k : Nat) (a0_0 : Int) (a0_1 : Int) (a0_2 : Int) : Option (Int × Int × Int) := (spread_Alone.f k a0_0 a0_1 a0_2).bind fun bt193 => (some (bt193.1, bt193.2.1, bt193.2.2))
theorem split_means_alone.mono : ∀ a0 a1 a2 k, LeO (split_means_alone.f k a0 a1 a2) (split_means_alone.f (k + 1) a0 a1 a2) := by
 intro a0 a1 a2 k
 unfold split_means_alone.f
 with_reducible repeat' first | apply spread_Alone.mono | apply LeO.refl | apply LeO.none | refine LeO.ite ?_ ?_ | refine LeO.bind ?_ (fun _ => ?_)
set_option maxHeartbeats 8000000 in
set_option maxRecDepth 100000 in
theorem split_means_alone.calls (k : Nat) (aa : Int) (ab : Int) (ac : Int) (r1 : Int) (r2 : Int) (r3 : Int) (w : World) (h : split_means_alone.f k aa ab ac = some (r1, r2, r3)) :
  Calls Try.prog 91 #[.agg #[.int .i64 aa, .int .i64 ab, .int .i64 ac]] w fun e w' => e = .returned (.agg #[.int .u64 r1, .int .u64 r2, .int .u64 r3]) ∧ Below w.heap.size w w' := by
 have aq := Try.underlying83
 have ar := Try.underlying32
 have au := Try.underlying54
 have HB := aaM (Below.refl w.heap.size w)
 have H : ((spread_Alone.f k aa ab ac).bind fun ag => (some (ag.1, ag.2.1, ag.2.2))) = some (r1, r2, r3) := h
 clear h
 replace H := ooB.mp H
 obtain ⟨⟨ah, ai, aj⟩, ak, H⟩ := H
 (try dsimp only at H)
 have A2 := aaM ak
 clear ak
 simp only [Option.some.injEq, Prod.mk.injEq] at H
 obtain ⟨rfl, rfl, rfl⟩ := H
 go_enter Try.func91, Try.ntmps91
 go_wp2_with (first | ((with_reducible refine gate_dst (N := 1) rfl ?_); refine bxF w HB 1 #[.int .i64 aa, .int .i64 ab, .int .i64 ac] 83 ?_; intro av hg w3 hb ae HB al; have aw := al; clear hb hg) | ((with_reducible refine gate_dst (N := 2) rfl ?_); refine bxF w HB 2 #[.int .u64 0, .int .u64 0, .int .u64 0] 32 ?_; intro am hg w4 hb af HB an; have ax := an; obtain ⟨ao, ap⟩ := nS hg ae; replace ae := bY hb ae; clear hb hg; have := ao.out; have := ap.out; obtain ⟨_, _, _, _, _, _⟩ := bE3 ae.out) | ((with_reducible refine gate_callee (f := 94) rfl ?_); refine gL (some 5) Try.func94 #[.agg #[.int .i64 aa, .int .i64 ab, .int .i64 ac]] ?_; (with_reducible refine (spread_Alone.calls k aa ab ac ah ai aj _ A2.out).mono ?_); rintro e w7 ⟨rfl, hb⟩; refine ⟨_, rfl, ?_⟩; replace ae := bY hb ae; replace af := bY hb af; replace HB := aaM (lP (lB HB) hb); (try clear hb); obtain ⟨_, _, _, _, _, _⟩ := bE3 af.out))
 refine bodyPost_ret (results_cell_row rfl _ _ am 32 #[.int .u64 ah, .int .u64 ai, .int .u64 aj] (0, 0) _ rfl (bZ af) Try.underlying32 rfl (by kernel_rfl)) rfl ?_
 exact ⟨eE, lB HB⟩

/-! ### prod_Times: function 38 -/
def prod_Times.f (a0_0 : Int) (a0_1 : Int) (a1 : Int) : Option (Int × Int × Int) := (bits_Mul64.f a0_1 a1).bind fun bt198 => ((bits_Mul64.f a0_0 a1).bind fun bt200 => ((bits_Add64.f bt198.1 bt200.2 0).bind fun bt202 => (some (IntKind.u64.wrap (bt200.1 + bt202.2), bt202.1, bt198.2))))
set_option maxHeartbeats 8000000 in
set_option maxRecDepth 100000 in
theorem prod_Times.calls (ac : Int) (ae : Int) (a1 : Int) (r1 : Int) (r2 : Int) (r3 : Int) (w : World) (h : prod_Times.f ac ae a1 = some (r1, r2, r3)) :
  Calls Try.prog 38 #[.agg #[.int .u64 ac, .int .u64 ae], .int .u64 a1] w fun e w' => e = .returned (.agg #[.int .u64 r1, .int .u64 r2, .int .u64 r3]) ∧ Below w.heap.size w w' := by
 have bd := Try.underlying30
 have be := Try.underlying87
 have HB := aaM (Below.refl w.heap.size w)
 have H : ((bits_Mul64.f ae a1).bind fun au => ((bits_Mul64.f ac a1).bind fun aj => ((bits_Add64.f au.1 aj.2 0).bind fun af => (some (IntKind.u64.wrap (aj.1 + af.2), af.1, au.2))))) = some (r1, r2, r3) := h
 clear h
 replace H := ooB.mp H
 obtain ⟨⟨ak, al⟩, av, H⟩ := H
 (try dsimp only at H)
 have A3 := aaM av
 clear av
 replace H := ooB.mp H
 obtain ⟨⟨am, an⟩, aw, H⟩ := H
 (try dsimp only at H)
 have A4 := aaM aw
 clear aw
 replace H := ooB.mp H
 obtain ⟨⟨ap, aq⟩, ax, H⟩ := H
 (try dsimp only at H)
 have A5 := aaM ax
 clear ax
 simp only [Option.some.injEq, Prod.mk.injEq] at H
 obtain ⟨rfl, rfl, rfl⟩ := H
 go_enter Try.func38, Try.ntmps38
 go_wp2_with (first | ((with_reducible refine gate_dst (N := 2) rfl ?_); refine bxF w HB 2 #[.int .u64 ac, .int .u64 ae] 30 ?_; intro ar hg w6 hb aa HB a9; have bf := a9; clear hb hg) | ((with_reducible refine gate_dst (N := 4) rfl ?_); refine bxF w HB 4 #[.int .u64 0, .int .u64 0, .int .u64 0] 87 ?_; intro ao hg w7 hb ab HB ba; have bg := ba; obtain ⟨bb, bc⟩ := nS hg aa; replace aa := bY hb aa; clear hb hg; have := bb.out; have := bc.out; obtain ⟨_, _, _, _⟩ := bE2 aa.out) | ((with_reducible refine gate_callee (f := 53) rfl ?_); refine gL (some 14) Try.func53 #[.int .u64 ae, .int .u64 a1] ?_; (with_reducible refine (bits_Mul64.calls ae a1 ak al _ A3.out).mono ?_); rintro e w' ⟨rfl, ⟨nd, rfl⟩⟩; refine ⟨_, rfl, ?_⟩; (try (rw [drewN_self w7]; generalize hq_ : World.drewN w7 _ = w7; have ag : Aside0 (w7.heap[ar]? = some (.cells #[.int .u64 ac, .int .u64 ae] 30 (0, 0))) := ⟨by rw [← hq_]; exact (bZ aa)⟩; have ah : Aside0 (w7.heap[ao]? = some (.cells #[.int .u64 0, .int .u64 0, .int .u64 0] 87 (0, 0))) := ⟨by rw [← hq_]; exact (bZ ab)⟩; have ai : Aside0 (Below w.heap.size w w7) := ⟨by rw [← hq_]; exact (lB HB)⟩; clear aa ab HB hq_; have aa := ag; have ab := ah; have HB := ai; clear ag ah ai; obtain ⟨ay, az, a0, a2⟩ := bE2 aa.out; obtain ⟨a3, a4, a5, a6, a7, a8⟩ := bE3 ab.out))) | ((with_reducible refine gate_callee (f := 53) rfl ?_); refine gL (some 21) Try.func53 #[.int .u64 ac, .int .u64 a1] ?_; (with_reducible refine (bits_Mul64.calls ac a1 am an _ A4.out).mono ?_); rintro e w' ⟨rfl, ⟨nd, rfl⟩⟩; refine ⟨_, rfl, ?_⟩; (try (rw [drewN_self w7]; generalize hq_ : World.drewN w7 _ = w7; have ag : Aside0 (w7.heap[ar]? = some (.cells #[.int .u64 ac, .int .u64 ae] 30 (0, 0))) := ⟨by rw [← hq_]; exact (bZ aa)⟩; have ah : Aside0 (w7.heap[ao]? = some (.cells #[.int .u64 0, .int .u64 0, .int .u64 0] 87 (0, 0))) := ⟨by rw [← hq_]; exact (bZ ab)⟩; have ai : Aside0 (Below w.heap.size w w7) := ⟨by rw [← hq_]; exact (lB HB)⟩; clear aa ab HB hq_; have aa := ag; have ab := ah; have HB := ai; clear ag ah ai; obtain ⟨ay, az, a0, a2⟩ := bE2 aa.out; obtain ⟨a3, a4, a5, a6, a7, a8⟩ := bE3 ab.out))) | ((with_reducible refine gate_callee (f := 54) rfl ?_); refine goesX_ (some 27) rfl rfl #[.int .u64 ak, .int .u64 an, .int .u64 0] rfl mG ?_; (with_reducible refine (bits_Add64.calls ak an 0 ap aq _ A5.out).mono ?_); rintro e w' ⟨rfl, ⟨nd, rfl⟩⟩; refine ⟨_, rfl, ?_⟩; (try (rw [drewN_self w7]; generalize hq_ : World.drewN w7 _ = w7; have ag : Aside0 (w7.heap[ar]? = some (.cells #[.int .u64 ac, .int .u64 ae] 30 (0, 0))) := ⟨by rw [← hq_]; exact (bZ aa)⟩; have ah : Aside0 (w7.heap[ao]? = some (.cells #[.int .u64 0, .int .u64 0, .int .u64 0] 87 (0, 0))) := ⟨by rw [← hq_]; exact (bZ ab)⟩; have ai : Aside0 (Below w.heap.size w w7) := ⟨by rw [← hq_]; exact (lB HB)⟩; clear aa ab HB hq_; have aa := ag; have ab := ah; have HB := ai; clear ag ah ai; obtain ⟨ay, az, a0, a2⟩ := bE2 aa.out; obtain ⟨a3, a4, a5, a6, a7, a8⟩ := bE3 ab.out)); obtain ⟨_, _, _, _, _, _⟩ := bE3 ab.out))
 refine bodyPost_ret (results_cell_row rfl _ _ ao 87 #[.int .u64 (IntKind.u64.wrap (am + aq)), .int .u64 ap, .int .u64 al] (0, 0) _ rfl (bZ ab) Try.underlying87 rfl (by kernel_rfl)) rfl ?_
 exact ⟨eE, lB HB⟩

/-! ### spread_side: function 99 -/
def spread_side.f (a0_0 : Int) (a0_1 : Int) (a0_2 : Int) (a1_0 : Int) (a1_1 : Int) (a1_2 : Int) : Option (Int × Int) := (prod_Square.f a0_1).bind fun bt207 => ((prod_Times.f bt207.1 bt207.2 (IntKind.u64.wrap (a1_0))).bind fun bt209 => (some (bt209.2.1, bt209.2.2)))
def spread_side.T1 : Bool × List (List Nat × List Nat) := (true, [([], []), ([0], [0]), ([1], [1]), ([], []), ([3], [3]), ([4], [4]), ([2, 5, 2], [2, 5]), ([], []), ([7, 6, 6, 0, 1, 2, 3, 4, 5, 6, 7], [6, 7])])
def spread_side.B1 : List Nat := [0, 1, 3, 0, 8, 24, 63, 0, 255]
theorem spread_side.tab1 : rtab .any (opsOf Try.f99 1) = spread_side.T1 := by kernel_rfl
theorem spread_side.bits1 : waitsOk spread_side.T1.2 spread_side.B1 = true := by kernel_rfl
set_option maxHeartbeats 8000000 in
set_option maxRecDepth 100000 in
theorem spread_side.calls (av : Int) (aj : Int) (aw : Int) (ae : Int) (ax : Int) (ay : Int) (r1 : Int) (r2 : Int) (w : World) (h : spread_side.f av aj aw ae ax ay = some (r1, r2)) :
  Calls Try.prog 99 #[.agg #[.int .i64 av, .int .i64 aj, .int .i64 aw], .agg #[.int .i64 ae, .int .i64 ax, .int .i64 ay]] w fun e w' => e = .returned (.agg #[.int .u64 r1, .int .u64 r2]) ∧ Below w.heap.size w w' := by
 have b1 := Try.underlying54
 have b2 := Try.underlying30
 have b3 := Try.underlying87
 have HB := aaM (Below.refl w.heap.size w)
 have H : ((prod_Square.f aj).bind fun a7 => ((prod_Times.f a7.1 a7.2 (IntKind.u64.wrap (ae))).bind fun a4 => (some (a4.2.1, a4.2.2)))) = some (r1, r2) := h
 clear h
 replace H := ooB.mp H
 obtain ⟨⟨al, am⟩, a8, H⟩ := H
 (try dsimp only at H)
 have A3 := aaM a8
 clear a8
 replace H := ooB.mp H
 obtain ⟨⟨a5, a0, a1⟩, a9, H⟩ := H
 (try dsimp only at H)
 have A4 := aaM a9
 clear a9
 simp only [Option.some.injEq, Prod.mk.injEq] at H
 obtain ⟨rfl, rfl⟩ := H
 go_enter Try.func99, Try.ntmps99
 try go_wp2_with (first | ((with_reducible refine gate_dst (N := 2) rfl ?_); refine bxF w HB 2 #[.int .i64 av, .int .i64 aj, .int .i64 aw] 54 ?_; intro ag hg w5 hb aa HB bs; have b4 := bs; clear hb hg) | ((with_reducible refine gate_dst (N := 3) rfl ?_); refine bxF w HB 3 #[.int .i64 ae, .int .i64 ax, .int .i64 ay] 54 ?_; intro ah hg w6 hb ab HB bt; have b5 := bt; obtain ⟨b6, b7⟩ := nS hg aa; replace aa := bY hb aa; clear hb hg) | ((with_reducible refine gate_dst (N := 4) rfl ?_); refine bxF w HB 4 #[.int .u64 0, .int .u64 0] 30 ?_; intro az hg w7 hb ac HB bu; have b8 := bu; obtain ⟨bv, bw⟩ := nS hg aa; replace aa := bY hb aa; obtain ⟨bz, b0⟩ := nS hg ab; replace ab := bY hb ab; clear hb hg))
 replace aa := aaM (bD aa.out)
 replace ab := aaM (bD ab.out)
 replace ac := aaM (bD ac.out)
 replace HB := aaM (lD HB.out)
 refine start_ (n := 9) (S := fun w' => w'.cell? ⟨ag, 0, none⟩ = some (.int .i64 av) ∧ w'.cell? ⟨ag, 1, none⟩ = some (.int .i64 aj) ∧ w'.cell? ⟨ag, 2, none⟩ = some (.int .i64 aw) ∧ w'.cell? ⟨ah, 0, none⟩ = some (.int .i64 ae) ∧ w'.cell? ⟨ah, 1, none⟩ = some (.int .i64 ax) ∧ w'.cell? ⟨ah, 2, none⟩ = some (.int .i64 ay)) (ds := []) _ (by kernel_rfl) rfl rfl hD (fun hHeld => ?_); refine with_tabW spread_side.tab1 spread_side.bits1 (fun HT_ HW_ => ?_)
 generalize w7.drew = w8 at aa ab ac HB hHeld ⊢
 refine pU 0 6 (qB 9 1) HT_ ?_
 refine pU 3 9 (qB 9 9) HT_ ?_
 refine tU 1 7 (qB 9 11) HT_ HW_ hHeld ?_
 refine tU 4 10 (qB 9 27) HT_ HW_ hHeld ?_
 refine pU 5 11 (qB 9 59) HT_ ?_
 refine join_ (σ := Nat) 1 (qB 9 255) (fun s_ => [(8, .agg #[.int .u64 al, .int .u64 am]), (12, .agg #[.int .u64 a5, .int .u64 a0, .int .u64 a1]), (5, .pointer (some ⟨s_, 0, none⟩))]) (fun s_ w' => (w'.cell? ⟨ag, 0, none⟩ = some (.int .i64 av) ∧ w'.cell? ⟨ag, 1, none⟩ = some (.int .i64 aj) ∧ w'.cell? ⟨ag, 2, none⟩ = some (.int .i64 aw) ∧ w'.cell? ⟨ah, 0, none⟩ = some (.int .i64 ae) ∧ w'.cell? ⟨ah, 1, none⟩ = some (.int .i64 ax) ∧ w'.cell? ⟨ah, 2, none⟩ = some (.int .i64 ay)) ∧ (w'.heap[ag]? = some (.cells #[.int .i64 av, .int .i64 aj, .int .i64 aw] 54 (0, 0))) ∧ (w'.heap[ah]? = some (.cells #[.int .i64 ae, .int .i64 ax, .int .i64 ay] 54 (0, 0))) ∧ (w'.heap[az]? = some (.cells #[.int .u64 0, .int .u64 0] 30 (0, 0))) ∧ (w'.heap[s_]? = some (.cells #[.int .u64 0, .int .u64 0, .int .u64 0] 87 (0, 0))) ∧ (w.heap.size ≤ s_) ∧ (w.heap.size ≤ s_) ∧ (ag ≠ s_) ∧ (s_ ≠ ag) ∧ (ah ≠ s_) ∧ (s_ ≠ ah) ∧ (az ≠ s_) ∧ (s_ ≠ az) ∧ (Below w.heap.size w w')) ?_ ?_
 rotate_left
 ·intro hCont
  refine two_ (i := 2) (j := 7) (Ni := some 8) (Nj := some 5) (qB 9 63) (qB 9 187) rfl rfl rfl rfl (two_of HT_.out (by kernel_rfl)) (by decide) (by decide) (fun K hK => ?_) (fun K hK => ?_)
  ·skip
   refine gU Try.func98 #[.int .i64 aj] ?_; (with_reducible refine (prod_Square.calls aj al am _ A3.out).mono ?_); rintro e w9 ⟨rfl, hb⟩; refine ⟨_, rfl, ?_⟩; replace aa := bY hb aa; replace ab := bY hb ab; replace ac := bY hb ac; replace HB := aaM (lP (lB HB) hb); (try clear hb); refine hK.out _ _ hD (fun hHeld => ?_); clear hK K; refine nU 8 ?_
   refine two_ (i := 6) (j := 7) (Ni := some 12) (Nj := some 5) (qB 9 127) (qB 9 191) rfl rfl rfl rfl (two_of HT_.out (by kernel_rfl)) (by decide) (by decide) (fun K hK => ?_) (fun K hK => ?_)
   ·skip
    refine gU Try.func38 #[.agg #[.int .u64 al, .int .u64 am], .int .u64 (IntKind.u64.wrap (ae))] ?_; (with_reducible refine (prod_Times.calls al am (IntKind.u64.wrap (ae)) a5 a0 a1 _ A4.out).mono ?_); rintro e ba ⟨rfl, hb⟩; refine ⟨_, rfl, ?_⟩; replace aa := bY hb aa; replace ab := bY hb ab; replace ac := bY hb ac; replace HB := aaM (lP (lB HB) hb); (try clear hb); refine hK.out _ _ hD (fun hHeld => ?_); clear hK K; refine nU 12 ?_
    refine oU 7 (some 5) (qB 9 255) HT_ (fun K hK => ?_); refine box_step ?hg (N := 5) ?hd (cs := #[.int .u64 0, .int .u64 0, .int .u64 0]) (t := 87) ?hr ?_; (case hd => rfl); (case hg => rfl); (case hr => first | (go_simp; done) | (go_simp; rfl)); intro ai hg bb hbox hb; have hP_ := lQ (lB HB) hb; replace HB := aaM hP_.1; have af := aaM (hbox); have a2 := aaM (gQ hg hP_.2); have a3 := aaM (gQ hg hP_.2); obtain ⟨an, ao⟩ := nS hg aa; replace aa := bY hb aa; obtain ⟨ap, aq⟩ := nS hg ab; replace ab := bY hb ab; obtain ⟨ar, au⟩ := nS hg ac; replace ac := bY hb ac; clear hb hbox hg hP_; refine hK.out _ _ hD (fun hHeld => ?_); clear hK K; refine nU 5 ?_
    exact norm_ (by simp only [putAll, Act.put, ssB, ssZ, ssS]) (hCont (ai) _ ⟨hHeld, (bZ aa), (bZ ab), (bZ ac), (bZ af), a2.out, a3.out, an.out, ao.out, ap.out, aq.out, ar.out, au.out, (lB HB)⟩)
   ·skip
    refine box_step ?hg (N := 5) ?hd (cs := #[.int .u64 0, .int .u64 0, .int .u64 0]) (t := 87) ?hr ?_; (case hd => rfl); (case hg => rfl); (case hr => first | (go_simp; done) | (go_simp; rfl)); intro ai hg ba hbox hb; have hP_ := lQ (lB HB) hb; replace HB := aaM hP_.1; have af := aaM (hbox); have a2 := aaM (gQ hg hP_.2); have a3 := aaM (gQ hg hP_.2); obtain ⟨an, ao⟩ := nS hg aa; replace aa := bY hb aa; obtain ⟨ap, aq⟩ := nS hg ab; replace ab := bY hb ab; obtain ⟨ar, au⟩ := nS hg ac; replace ac := bY hb ac; clear hb hbox hg hP_; refine hK.out _ _ hD (fun hHeld => ?_); clear hK K; refine nU 5 ?_
    refine oU 6 (some 12) (qB 9 255) HT_ (fun K hK => ?_); refine gU Try.func38 #[.agg #[.int .u64 al, .int .u64 am], .int .u64 (IntKind.u64.wrap (ae))] ?_; (with_reducible refine (prod_Times.calls al am (IntKind.u64.wrap (ae)) a5 a0 a1 _ A4.out).mono ?_); rintro e bb ⟨rfl, hb⟩; refine ⟨_, rfl, ?_⟩; replace aa := bY hb aa; replace ab := bY hb ab; replace ac := bY hb ac; replace af := bY hb af; replace HB := aaM (lP (lB HB) hb); (try clear hb); refine hK.out _ _ hD (fun hHeld => ?_); clear hK K; refine nU 12 ?_
    exact norm_ (by simp only [putAll, Act.put, ssB, ssZ, ssS]) (hCont (ai) _ ⟨hHeld, (bZ aa), (bZ ab), (bZ ac), (bZ af), a2.out, a3.out, an.out, ao.out, ap.out, aq.out, ar.out, au.out, (lB HB)⟩)
  ·skip
   refine box_step ?hg (N := 5) ?hd (cs := #[.int .u64 0, .int .u64 0, .int .u64 0]) (t := 87) ?hr ?_; (case hd => rfl); (case hg => rfl); (case hr => first | (go_simp; done) | (go_simp; rfl)); intro ai hg w9 hbox hb; have hP_ := lQ (lB HB) hb; replace HB := aaM hP_.1; have af := aaM (hbox); have a2 := aaM (gQ hg hP_.2); have a3 := aaM (gQ hg hP_.2); obtain ⟨an, ao⟩ := nS hg aa; replace aa := bY hb aa; obtain ⟨ap, aq⟩ := nS hg ab; replace ab := bY hb ab; obtain ⟨ar, au⟩ := nS hg ac; replace ac := bY hb ac; clear hb hbox hg hP_; refine hK.out _ _ hD (fun hHeld => ?_); clear hK K; refine nU 5 ?_
   refine oU 2 (some 8) (qB 9 191) HT_ (fun K hK => ?_); refine gU Try.func98 #[.int .i64 aj] ?_; (with_reducible refine (prod_Square.calls aj al am _ A3.out).mono ?_); rintro e ba ⟨rfl, hb⟩; refine ⟨_, rfl, ?_⟩; replace aa := bY hb aa; replace ab := bY hb ab; replace ac := bY hb ac; replace af := bY hb af; replace HB := aaM (lP (lB HB) hb); (try clear hb); refine hK.out _ _ hD (fun hHeld => ?_); clear hK K; refine nU 8 ?_
   refine oU 6 (some 12) (qB 9 255) HT_ (fun K hK => ?_); refine gU Try.func38 #[.agg #[.int .u64 al, .int .u64 am], .int .u64 (IntKind.u64.wrap (ae))] ?_; (with_reducible refine (prod_Times.calls al am (IntKind.u64.wrap (ae)) a5 a0 a1 _ A4.out).mono ?_); rintro e bb ⟨rfl, hb⟩; refine ⟨_, rfl, ?_⟩; replace aa := bY hb aa; replace ab := bY hb ab; replace ac := bY hb ac; replace af := bY hb af; replace HB := aaM (lP (lB HB) hb); (try clear hb); refine hK.out _ _ hD (fun hHeld => ?_); clear hK K; refine nU 12 ?_
   exact norm_ (by simp only [putAll, Act.put, ssB, ssZ, ssS]) (hCont (ai) _ ⟨hHeld, (bZ aa), (bZ ab), (bZ ac), (bZ af), a2.out, a3.out, an.out, ao.out, ap.out, aq.out, ar.out, au.out, (lB HB)⟩)
 rintro ai ak ⟨hS_, h0_, h1_, h2_, h3_, h4_, h5_, h6_, h7_, h8_, h9_, bc, bd, be⟩
 have bf : Aside0 (ak.heap[ag]? = some (.cells #[.int .i64 av, .int .i64 aj, .int .i64 aw] 54 (0, 0))) := ⟨h0_⟩
 have bg : Aside0 (ak.heap[ah]? = some (.cells #[.int .i64 ae, .int .i64 ax, .int .i64 ay] 54 (0, 0))) := ⟨h1_⟩
 have bh : Aside0 (ak.heap[az]? = some (.cells #[.int .u64 0, .int .u64 0] 30 (0, 0))) := ⟨h2_⟩
 have bi : Aside0 (ak.heap[ai]? = some (.cells #[.int .u64 0, .int .u64 0, .int .u64 0] 87 (0, 0))) := ⟨h3_⟩
 have bj : Aside0 (w.heap.size ≤ ai) := ⟨h4_⟩
 have bk : Aside0 (w.heap.size ≤ ai) := ⟨h5_⟩
 have bl : Aside0 (ag ≠ ai) := ⟨h6_⟩
 have bm : Aside0 (ai ≠ ag) := ⟨h7_⟩
 have bn : Aside0 (ah ≠ ai) := ⟨h8_⟩
 have bo : Aside0 (ai ≠ ah) := ⟨h9_⟩
 have bp : Aside0 (az ≠ ai) := ⟨bc⟩
 have bq : Aside0 (ai ≠ az) := ⟨bd⟩
 have br : Aside0 (Below w.heap.size w ak) := ⟨be⟩
 clear aa ab ac HB h0_ h1_ h2_ h3_ h4_ h5_ h6_ h7_ h8_ h9_ bc bd be
 have aa := bf
 have ab := bg
 have ac := bh
 have af := bi
 have a2 := bj
 have a3 := bk
 have an := bl
 have ao := bm
 have ap := bn
 have aq := bo
 have ar := bp
 have au := bq
 have HB := br
 clear bf bg bh bi bj bk bl bm bn bo bp bq br
 have hHeld : ak.cell? ⟨ag, 0, none⟩ = some (.int .i64 av) ∧ ak.cell? ⟨ag, 1, none⟩ = some (.int .i64 aj) ∧ ak.cell? ⟨ag, 2, none⟩ = some (.int .i64 aw) ∧ ak.cell? ⟨ah, 0, none⟩ = some (.int .i64 ae) ∧ ak.cell? ⟨ah, 1, none⟩ = some (.int .i64 ax) ∧ ak.cell? ⟨ah, 2, none⟩ = some (.int .i64 ay) := hS_
 refine norm_ (a' := ?_) ?_ ?_
 rotate_left
 ·simp only [putAll, Act.put, ssB, ssZ, ssS]
  rfl
 refine oU 8 none (qB 9 511) HT_ (fun K hK => ?_)
 obtain ⟨b9, -, -, ca, -, -⟩ := bE3 af.out
 have := an.out
 have := ap.out
 have := ar.out
 have := ao.out
 have := aq.out
 have := au.out
 obtain ⟨-, cb, -, -, cc, -⟩ := bE3 af.out
 have := an.out
 have := ap.out
 have := ar.out
 have := ao.out
 have := aq.out
 have := au.out
 obtain ⟨-, -, cd, -, -, ce⟩ := bE3 af.out
 have := an.out
 have := ap.out
 have := ar.out
 have := ao.out
 have := aq.out
 have := au.out
 refine skip_ (w1 := ?_) (by rfl) rfl ?_ ?_
 rotate_left
 ·go_simp
  rfl
 refine hK.out _ _ (cH hHeld) (fun hHeld => ?_)
 clear hK K
 refine done_ (done_of HT_.out (by kernel_rfl)) ?_
 have := ao.out
 have := an.out
 have := aq.out
 have := ap.out
 have := au.out
 have := ar.out
 obtain ⟨_, _, _, _, _, _⟩ := bE3 af.out
 have := bw.out
 have := bv.out
 have := b0.out
 have := bz.out
 obtain ⟨_, _, _, _⟩ := bE2 ac.out
 try go_wp2
 refine bodyPost_ret (results_cell_row rfl _ _ az 30 #[.int .u64 a0, .int .u64 a1] (0, 0) _ rfl (bZ ac) Try.underlying30 rfl (by kernel_rfl)) rfl ?_
 exact ⟨eE, lB HB⟩

/-! ### spread_Score: function 95 -/
def spread_Score.j0 : Nat → Bool → Int → Int → Int → Int → Int → Int → Option (Int × Int × Int)
 | 0, _, _, _, _, _, _, _ => none
 | k + 1, x14, x214000, x214001, x214002, x215000, x215001, x215002 => if x14 = true then (some (0, 0, 0)) else ((spread_side.f x214000 x214001 x214002 x215000 x215001 x215002).bind fun bt218 => ((spread_side.f x215000 x215001 x215002 x214000 x214001 x214002).bind fun bt220 => ((prod_Add.f bt218.1 bt218.2 bt220.1 bt220.2).bind fun bt222 => (some (bt222.1, bt222.2.1, IntKind.u64.wrap ((IntKind.u64.wrap (x214000)) * (IntKind.u64.wrap (x215000))))))))
def spread_Score.f (k : Nat) (a0_0 : Int) (a0_1 : Int) (a0_2 : Int) (a1_0 : Int) (a1_1 : Int) (a1_2 : Int) : Option (Int × Int × Int) := (spread_there.f k a0_0 a0_1 a0_2).bind fun t216 => (if t216 = true then ((spread_there.f k a1_0 a1_1 a1_2).bind fun t217 => (spread_Score.j0 k (!t217) a0_0 a0_1 a0_2 a1_0 a1_1 a1_2)) else (spread_Score.j0 k true a0_0 a0_1 a0_2 a1_0 a1_1 a1_2))
theorem spread_Score.mono_l : ∀ k, (∀ y0 y1 y2 y3 y4 y5 y6, LeO (spread_Score.j0 k y0 y1 y2 y3 y4 y5 y6) (spread_Score.j0 (k + 1) y0 y1 y2 y3 y4 y5 y6))
 | 0 => fun _ _ _ _ _ _ _ r h => by simp [spread_Score.j0] at h
 | k + 1 => by
  have ih0 := spread_Score.mono_l k
  ·intro y0 y1 y2 y3 y4 y5 y6
   unfold spread_Score.j0
   with_reducible repeat' first | apply ih0 | apply spread_there.mono | apply LeO.refl | apply LeO.none | refine LeO.ite ?_ ?_ | refine LeO.bind ?_ (fun _ => ?_)
theorem spread_Score.mono : ∀ a0 a1 a2 a3 a4 a5 k, LeO (spread_Score.f k a0 a1 a2 a3 a4 a5) (spread_Score.f (k + 1) a0 a1 a2 a3 a4 a5) := by
 intro a0 a1 a2 a3 a4 a5 k
 have ih0 := spread_Score.mono_l k
 unfold spread_Score.f
 with_reducible repeat' first | apply ih0 | apply spread_there.mono | apply LeO.refl | apply LeO.none | refine LeO.ite ?_ ?_ | refine LeO.bind ?_ (fun _ => ?_)
def spread_Score.T3 : Bool × List (List Nat × List Nat) := (true, [([], []), ([], []), ([0, 1], [0, 1]), ([], []), ([], []), ([3, 4, 2], [3, 4]), ([2, 5, 5], [2, 5]), ([6], [6]), ([7], [7]), ([7], [7]), ([], []), ([10, 8, 6, 0, 1, 2, 3, 4, 5, 6, 7, 8, 10], [8, 10]), ([9, 11, 0, 1, 2, 3, 4, 5, 6, 7, 8, 9, 10, 11], [9])])
def spread_Score.B3 : List Nat := [0, 0, 3, 0, 0, 31, 63, 127, 255, 255, 0, 1535, 4095]
theorem spread_Score.tab3 : rtab .any (opsOf Try.f95 3) = spread_Score.T3 := by kernel_rfl
theorem spread_Score.bits3 : waitsOk spread_Score.T3.2 spread_Score.B3 = true := by kernel_rfl
set_option maxHeartbeats 8000000 in
set_option maxRecDepth 100000 in
theorem spread_Score.calls (k : Nat) (ae : Int) (ag : Int) (ah : Int) (af : Int) (ai : Int) (aj : Int) (r1 : Int) (r2 : Int) (r3 : Int) (w : World) (h : spread_Score.f k ae ag ah af ai aj = some (r1, r2, r3)) :
  Calls Try.prog 95 #[.agg #[.int .i64 ae, .int .i64 ag, .int .i64 ah], .agg #[.int .i64 af, .int .i64 ai, .int .i64 aj]] w fun e w' => e = .returned (.agg #[.int .u64 r1, .int .u64 r2, .int .u64 r3]) ∧ Below w.heap.size w w' := by
 have c5 := Try.underlying54
 have c6 := Try.underlying32
 have c7 := Try.underlying30
 have HB := aaM (Below.refl w.heap.size w)
 have H : ((spread_there.f k ae ag ah).bind fun bb => (if bb = true then ((spread_there.f k af ai aj).bind fun a2 => (spread_Score.j0 k (!a2) ae ag ah af ai aj)) else (spread_Score.j0 k true ae ag ah af ai aj))) = some (r1, r2, r3) := h
 clear h
 have bh := aaM H
 clear H
 go_enter Try.func95, Try.ntmps95
 go_upto_region 1 with (first | ((with_reducible refine gate_dst (N := 2) rfl ?_); refine bxF w HB 2 #[.int .i64 ae, .int .i64 ag, .int .i64 ah] 54 ?_; intro am hg w4 hb aa HB cf; have da := cf; clear hb hg) | ((with_reducible refine gate_dst (N := 3) rfl ?_); refine bxF w HB 3 #[.int .i64 af, .int .i64 ai, .int .i64 aj] 54 ?_; intro an hg w5 hb ab HB cg; have db := cg; obtain ⟨bi, bj⟩ := nS hg aa; replace aa := bY hb aa; clear hb hg) | ((with_reducible refine gate_dst (N := 4) rfl ?_); refine bxF w HB 4 #[.int .u64 0, .int .u64 0, .int .u64 0] 32 ?_; intro a3 hg w6 hb ac HB ch; have dc := ch; obtain ⟨bc, bd⟩ := nS hg aa; replace aa := bY hb aa; obtain ⟨bk, bl⟩ := nS hg ab; replace ab := bY hb ab; clear hb hg))
 (try simp only [Act.put, ssB, ssZ, ssS])
 go_cut [14] (fun ci wc => ∃ (kq : Nat) (be : Bool), ci = .bool be ∧ Aside0 (spread_Score.j0 kq be ae ag ah af ai aj = some (r1, r2, r3)) ∧ Aside0 (kq ≤ k) ∧ Aside0 (wc.heap[am]? = some (.cells #[.int .i64 ae, .int .i64 ag, .int .i64 ah] 54 (0, 0))) ∧ Aside0 (wc.heap[an]? = some (.cells #[.int .i64 af, .int .i64 ai, .int .i64 aj] 54 (0, 0))) ∧ Aside0 (wc.heap[a3]? = some (.cells #[.int .u64 0, .int .u64 0, .int .u64 0] 32 (0, 0))) ∧ Aside0 (Below w.heap.size w wc))
 case first =>
  have H := bh.out; clear bh; replace H := ooB.mp H; obtain ⟨bb, bp, H⟩ := H; (try dsimp only at H); have A7 := aaM bp; clear bp
  by_cases c8 : bb = true
  ·subst c8
   have H1 : ((spread_there.f k af ai aj).bind fun a2 => (spread_Score.j0 k (!a2) ae ag ah af ai aj)) = some (r1, r2, r3) := by rw [if_pos rfl] at H; exact H
   clear H; have H := H1; clear H1; replace H := ooB.mp H; obtain ⟨a2, bq, H⟩ := H; (try dsimp only at H); have A9 := aaM bq; clear bq; have H' := aaM H; clear H; have := bi.out; have := bj.out; have := bc.out; have := bd.out; obtain ⟨cj, ck, cl, cm, cn, cp⟩ := bE3 aa.out
   go_wp2_with (first | ((with_reducible refine gate_callee (f := 97) rfl ?_); refine gL (some 8) Try.func97 #[.agg #[.int .i64 ae, .int .i64 ag, .int .i64 ah]] ?_; (with_reducible refine (spread_there.calls k ae ag ah true _ A7.out).mono ?_); rintro e dd ⟨rfl, hb⟩; refine ⟨_, rfl, ?_⟩; replace aa := bY hb aa; replace ab := bY hb ab; replace ac := bY hb ac; replace HB := aaM (lP (lB HB) hb); (try clear hb); have := bk.out; have := bl.out; obtain ⟨cq, cr, ct, cu, cv, cw⟩ := bE3 ab.out) | (go_at_call 97; (with_reducible refine (spread_there.calls k af ai aj a2 _ A9.out).mono ?_); rintro e de ⟨rfl, hb⟩; replace aa := bY hb aa; replace ab := bY hb ab; replace ac := bY hb ac; replace HB := aaM (lP (lB HB) hb); (try clear hb)))
   go_meet
   case rel => exact ⟨_, (!a2), (eF), H', ⟨by first | omega | exact Nat.le_refl _⟩, ⟨bZ aa⟩, ⟨bZ ab⟩, ⟨bZ ac⟩, ⟨lB HB⟩⟩
  ·replace c8 := Bool.eq_false_iff.mpr c8
   subst c8
   have H1 : (spread_Score.j0 k true ae ag ah af ai aj) = some (r1, r2, r3) := by rw [if_neg (show ¬ (false = true) by decide)] at H; exact H
   clear H; have H := H1; clear H1; have H' := aaM H; clear H; have := bi.out; have := bj.out; have := bc.out; have := bd.out; obtain ⟨cx, cy, cz, c0, c2, c3⟩ := bE3 aa.out
   go_wp2_with (first | ((with_reducible refine gate_callee (f := 97) rfl ?_); refine gL (some 8) Try.func97 #[.agg #[.int .i64 ae, .int .i64 ag, .int .i64 ah]] ?_; (with_reducible refine (spread_there.calls k ae ag ah false _ A7.out).mono ?_); rintro e df ⟨rfl, hb⟩; refine ⟨_, rfl, ?_⟩; replace aa := bY hb aa; replace ab := bY hb ab; replace ac := bY hb ac; replace HB := aaM (lP (lB HB) hb); (try clear hb)))
   go_meet
   case rel => exact ⟨_, (true), (eF), H', ⟨by first | omega | exact Nat.le_refl _⟩, ⟨bZ aa⟩, ⟨bZ ab⟩, ⟨bZ ac⟩, ⟨lB HB⟩⟩
 case rest =>
  clear bh; obtain ⟨kq, be, rfl, HA, dl, aa, ab, ac, HB⟩ := hcut
  cases kq with
  | zero => exact absurd HA.out (by simp [spread_Score.j0])
  | succ dm =>
   have H := HA.out; clear HA; simp only [spread_Score.j0] at H
   by_cases bf : be = true
   ·subst bf
    have H1 : (some (0, 0, 0)) = some (r1, r2, r3) := by rw [if_pos rfl] at H; exact H
    clear H; have H := H1; clear H1; simp only [Option.some.injEq, Prod.mk.injEq] at H; obtain ⟨rfl, rfl, rfl⟩ := H; have := bd.out; have := bc.out; have := bl.out; have := bk.out; obtain ⟨_, _, _, _, _, _⟩ := bE3 ac.out; go_wp2; refine bodyPost_ret (results_cell_row rfl _ _ a3 32 #[.int .u64 0, .int .u64 0, .int .u64 0] (0, 0) _ rfl (bZ ac) Try.underlying32 rfl (by kernel_rfl)) rfl ?_
    exact ⟨eE, lB HB⟩
   ·replace bf := Bool.eq_false_iff.mpr bf
    subst bf
    have H1 : ((spread_side.f ae ag ah af ai aj).bind fun br => ((spread_side.f af ai aj ae ag ah).bind fun ba => ((prod_Add.f br.1 br.2 ba.1 ba.2).bind fun a6 => (some (a6.1, a6.2.1, IntKind.u64.wrap ((IntKind.u64.wrap (ae)) * (IntKind.u64.wrap (af)))))))) = some (r1, r2, r3) := by rw [if_neg (show ¬ (false = true) by decide)] at H; exact H
    clear H; have H := H1; clear H1; replace H := ooB.mp H; obtain ⟨⟨ao, ap⟩, bs, H⟩ := H; replace H : ((spread_side.f af ai aj ae ag ah).bind fun ba => ((prod_Add.f ao ap ba.1 ba.2).bind fun a6 => (some (a6.1, a6.2.1, IntKind.u64.wrap ((IntKind.u64.wrap (ae)) * (IntKind.u64.wrap (af))))))) = some (r1, r2, r3) := H; have bt := aaM bs; clear bs; replace H := ooB.mp H; obtain ⟨⟨aq, ar⟩, bu, H⟩ := H; replace H : ((prod_Add.f ao ap aq ar).bind fun a6 => (some (a6.1, a6.2.1, IntKind.u64.wrap ((IntKind.u64.wrap (ae)) * (IntKind.u64.wrap (af)))))) = some (r1, r2, r3) := H; have bm := aaM bu; clear bu; replace H := ooB.mp H; obtain ⟨⟨a4, a5, a9⟩, bv, H⟩ := H; replace H : (some (a4, a5, IntKind.u64.wrap ((IntKind.u64.wrap (ae)) * (IntKind.u64.wrap (af))))) = some (r1, r2, r3) := H; have bg := aaM bv; clear bv; simp only [Option.some.injEq, Prod.mk.injEq] at H; obtain ⟨rfl, rfl, rfl⟩ := H; (try go_wp2); replace aa := aaM (bD aa.out); replace ab := aaM (bD ab.out); replace ac := aaM (bD ac.out); replace HB := aaM (lD HB.out); refine start_ (n := 13) (S := fun w' => w'.cell? ⟨am, 0, none⟩ = some (.int .i64 ae) ∧ w'.cell? ⟨am, 1, none⟩ = some (.int .i64 ag) ∧ w'.cell? ⟨am, 2, none⟩ = some (.int .i64 ah) ∧ w'.cell? ⟨an, 0, none⟩ = some (.int .i64 af) ∧ w'.cell? ⟨an, 1, none⟩ = some (.int .i64 ai) ∧ w'.cell? ⟨an, 2, none⟩ = some (.int .i64 aj)) (ds := []) _ (by kernel_rfl) rfl rfl hD (fun hHeld => ?_); refine with_tabW spread_Score.tab3 spread_Score.bits3 (fun HT_ HW_ => ?_); generalize wc.drew = dn at aa ab ac HB hHeld ⊢; refine tU 0 17 (qB 13 1) HT_ HW_ hHeld ?_
    refine tU 1 18 (qB 13 3) HT_ HW_ hHeld ?_
    refine tU 3 20 (qB 13 11) HT_ HW_ hHeld ?_
    refine tU 4 21 (qB 13 27) HT_ HW_ hHeld ?_
    refine join_ (σ := Nat) 2 (qB 13 2047) (fun s_ => [(19, .agg #[.int .u64 ao, .int .u64 ap]), (22, .agg #[.int .u64 aq, .int .u64 ar]), (23, .tuple #[.agg #[.int .u64 a4, .int .u64 a5], .int .i64 a9]), (5, .pointer (some ⟨s_, 0, none⟩)), (16, .tuple #[.agg #[.int .u64 a4, .int .u64 a5], .int .i64 a9]), (24, .agg #[.int .u64 a4, .int .u64 a5]), (25, .int .i64 a9)]) (fun s_ w' => (w'.cell? ⟨am, 0, none⟩ = some (.int .i64 ae) ∧ w'.cell? ⟨am, 1, none⟩ = some (.int .i64 ag) ∧ w'.cell? ⟨am, 2, none⟩ = some (.int .i64 ah) ∧ w'.cell? ⟨an, 0, none⟩ = some (.int .i64 af) ∧ w'.cell? ⟨an, 1, none⟩ = some (.int .i64 ai) ∧ w'.cell? ⟨an, 2, none⟩ = some (.int .i64 aj)) ∧ (w'.heap[am]? = some (.cells #[.int .i64 ae, .int .i64 ag, .int .i64 ah] 54 (0, 0))) ∧ (w'.heap[an]? = some (.cells #[.int .i64 af, .int .i64 ai, .int .i64 aj] 54 (0, 0))) ∧ (w'.heap[a3]? = some (.cells #[.int .u64 0, .int .u64 0, .int .u64 0] 32 (0, 0))) ∧ (w'.heap[s_]? = some (.cells #[.int .u64 0, .int .u64 0] 30 (0, 0))) ∧ (w.heap.size ≤ s_) ∧ (w.heap.size ≤ s_) ∧ (am ≠ s_) ∧ (s_ ≠ am) ∧ (an ≠ s_) ∧ (s_ ≠ an) ∧ (a3 ≠ s_) ∧ (s_ ≠ a3) ∧ (Below w.heap.size w w')) ?_ ?_; rotate_left
    ·intro hCont
     refine two_ (i := 2) (j := 10) (Ni := some 19) (Nj := some 5) (qB 13 31) (qB 13 1051) rfl rfl rfl rfl (two_of HT_.out (by kernel_rfl)) (by decide) (by decide) (fun K hK => ?_) (fun K hK => ?_)
     ·skip
      refine gU Try.func99 #[.agg #[.int .i64 ae, .int .i64 ag, .int .i64 ah], .agg #[.int .i64 af, .int .i64 ai, .int .i64 aj]] ?_; (with_reducible refine (spread_side.calls ae ag ah af ai aj ao ap _ bt.out).mono ?_); rintro e c4 ⟨rfl, hb⟩; refine ⟨_, rfl, ?_⟩; replace aa := bY hb aa; replace ab := bY hb ab; replace ac := bY hb ac; replace HB := aaM (lP (lB HB) hb); (try clear hb); refine hK.out _ _ hD (fun hHeld => ?_); clear hK K; refine nU 19 ?_
      refine two_ (i := 5) (j := 10) (Ni := some 22) (Nj := some 5) (qB 13 63) (qB 13 1055) rfl rfl rfl rfl (two_of HT_.out (by kernel_rfl)) (by decide) (by decide) (fun K hK => ?_) (fun K hK => ?_)
      ·skip
       refine gU Try.func99 #[.agg #[.int .i64 af, .int .i64 ai, .int .i64 aj], .agg #[.int .i64 ae, .int .i64 ag, .int .i64 ah]] ?_; (with_reducible refine (spread_side.calls af ai aj ae ag ah aq ar _ bm.out).mono ?_); rintro e bw ⟨rfl, hb⟩; refine ⟨_, rfl, ?_⟩; replace aa := bY hb aa; replace ab := bY hb ab; replace ac := bY hb ac; replace HB := aaM (lP (lB HB) hb); (try clear hb); refine hK.out _ _ hD (fun hHeld => ?_); clear hK K; refine nU 22 ?_
       refine two_ (i := 6) (j := 10) (Ni := some 23) (Nj := some 5) (qB 13 127) (qB 13 1087) rfl rfl rfl rfl (two_of HT_.out (by kernel_rfl)) (by decide) (by decide) (fun K hK => ?_) (fun K hK => ?_)
       ·skip
        refine gU Try.func86 #[.agg #[.int .u64 ao, .int .u64 ap], .agg #[.int .u64 aq, .int .u64 ar]] ?_; (with_reducible refine (prod_Add.calls ao ap aq ar a4 a5 a9 _ bg.out).mono ?_); rintro e bn ⟨rfl, hb⟩; refine ⟨_, rfl, ?_⟩; replace aa := bY hb aa; replace ab := bY hb ab; replace ac := bY hb ac; replace HB := aaM (lP (lB HB) hb); (try clear hb); refine hK.out _ _ hD (fun hHeld => ?_); clear hK K; refine nU 23 ?_
        refine pU 7 16 (qB 13 255) HT_ ?_
        refine pU 8 24 (qB 13 511) HT_ ?_
        refine pU 9 25 (qB 13 1023) HT_ ?_
        refine oU 10 (some 5) (qB 13 2047) HT_ (fun K hK => ?_); refine box_step ?hg (N := 5) ?hd (cs := #[.int .u64 0, .int .u64 0]) (t := 30) ?hr ?_; (case hd => rfl); (case hg => rfl); (case hr => first | (go_simp; done) | (go_simp; rfl)); intro al hg bo hbox hb; have hP_ := lQ (lB HB) hb; replace HB := aaM hP_.1; have ak := aaM (hbox); have a7 := aaM (gQ hg hP_.2); have a8 := aaM (gQ hg hP_.2); obtain ⟨av, aw⟩ := nS hg aa; replace aa := bY hb aa; obtain ⟨ax, ay⟩ := nS hg ab; replace ab := bY hb ab; obtain ⟨az, a0⟩ := nS hg ac; replace ac := bY hb ac; clear hb hbox hg hP_; refine hK.out _ _ hD (fun hHeld => ?_); clear hK K; refine nU 5 ?_
        exact norm_ (by simp only [putAll, Act.put, ssB, ssZ, ssS]) (hCont (al) _ ⟨hHeld, (bZ aa), (bZ ab), (bZ ac), (bZ ak), a7.out, a8.out, av.out, aw.out, ax.out, ay.out, az.out, a0.out, (lB HB)⟩)
       ·skip
        refine box_step ?hg (N := 5) ?hd (cs := #[.int .u64 0, .int .u64 0]) (t := 30) ?hr ?_; (case hd => rfl); (case hg => rfl); (case hr => first | (go_simp; done) | (go_simp; rfl)); intro al hg bn hbox hb; have hP_ := lQ (lB HB) hb; replace HB := aaM hP_.1; have ak := aaM (hbox); have a7 := aaM (gQ hg hP_.2); have a8 := aaM (gQ hg hP_.2); obtain ⟨av, aw⟩ := nS hg aa; replace aa := bY hb aa; obtain ⟨ax, ay⟩ := nS hg ab; replace ab := bY hb ab; obtain ⟨az, a0⟩ := nS hg ac; replace ac := bY hb ac; clear hb hbox hg hP_; refine hK.out _ _ hD (fun hHeld => ?_); clear hK K; refine nU 5 ?_
        refine oU 6 (some 23) (qB 13 1151) HT_ (fun K hK => ?_); refine gU Try.func86 #[.agg #[.int .u64 ao, .int .u64 ap], .agg #[.int .u64 aq, .int .u64 ar]] ?_; (with_reducible refine (prod_Add.calls ao ap aq ar a4 a5 a9 _ bg.out).mono ?_); rintro e bo ⟨rfl, hb⟩; refine ⟨_, rfl, ?_⟩; replace aa := bY hb aa; replace ab := bY hb ab; replace ac := bY hb ac; replace ak := bY hb ak; replace HB := aaM (lP (lB HB) hb); (try clear hb); refine hK.out _ _ hD (fun hHeld => ?_); clear hK K; refine nU 23 ?_
        refine pU 7 16 (qB 13 1279) HT_ ?_
        refine pU 8 24 (qB 13 1535) HT_ ?_
        refine pU 9 25 (qB 13 2047) HT_ ?_
        exact norm_ (by simp only [putAll, Act.put, ssB, ssZ, ssS]) (hCont (al) _ ⟨hHeld, (bZ aa), (bZ ab), (bZ ac), (bZ ak), a7.out, a8.out, av.out, aw.out, ax.out, ay.out, az.out, a0.out, (lB HB)⟩)
      ·skip
       refine box_step ?hg (N := 5) ?hd (cs := #[.int .u64 0, .int .u64 0]) (t := 30) ?hr ?_; (case hd => rfl); (case hg => rfl); (case hr => first | (go_simp; done) | (go_simp; rfl)); intro al hg bw hbox hb; have hP_ := lQ (lB HB) hb; replace HB := aaM hP_.1; have ak := aaM (hbox); have a7 := aaM (gQ hg hP_.2); have a8 := aaM (gQ hg hP_.2); obtain ⟨av, aw⟩ := nS hg aa; replace aa := bY hb aa; obtain ⟨ax, ay⟩ := nS hg ab; replace ab := bY hb ab; obtain ⟨az, a0⟩ := nS hg ac; replace ac := bY hb ac; clear hb hbox hg hP_; refine hK.out _ _ hD (fun hHeld => ?_); clear hK K; refine nU 5 ?_
       refine oU 5 (some 22) (qB 13 1087) HT_ (fun K hK => ?_); refine gU Try.func99 #[.agg #[.int .i64 af, .int .i64 ai, .int .i64 aj], .agg #[.int .i64 ae, .int .i64 ag, .int .i64 ah]] ?_; (with_reducible refine (spread_side.calls af ai aj ae ag ah aq ar _ bm.out).mono ?_); rintro e bn ⟨rfl, hb⟩; refine ⟨_, rfl, ?_⟩; replace aa := bY hb aa; replace ab := bY hb ab; replace ac := bY hb ac; replace ak := bY hb ak; replace HB := aaM (lP (lB HB) hb); (try clear hb); refine hK.out _ _ hD (fun hHeld => ?_); clear hK K; refine nU 22 ?_
       refine oU 6 (some 23) (qB 13 1151) HT_ (fun K hK => ?_); refine gU Try.func86 #[.agg #[.int .u64 ao, .int .u64 ap], .agg #[.int .u64 aq, .int .u64 ar]] ?_; (with_reducible refine (prod_Add.calls ao ap aq ar a4 a5 a9 _ bg.out).mono ?_); rintro e bo ⟨rfl, hb⟩; refine ⟨_, rfl, ?_⟩; replace aa := bY hb aa; replace ab := bY hb ab; replace ac := bY hb ac; replace ak := bY hb ak; replace HB := aaM (lP (lB HB) hb); (try clear hb); refine hK.out _ _ hD (fun hHeld => ?_); clear hK K; refine nU 23 ?_
       refine pU 7 16 (qB 13 1279) HT_ ?_
       refine pU 8 24 (qB 13 1535) HT_ ?_
       refine pU 9 25 (qB 13 2047) HT_ ?_
       exact norm_ (by simp only [putAll, Act.put, ssB, ssZ, ssS]) (hCont (al) _ ⟨hHeld, (bZ aa), (bZ ab), (bZ ac), (bZ ak), a7.out, a8.out, av.out, aw.out, ax.out, ay.out, az.out, a0.out, (lB HB)⟩)
     ·skip
      refine box_step ?hg (N := 5) ?hd (cs := #[.int .u64 0, .int .u64 0]) (t := 30) ?hr ?_; (case hd => rfl); (case hg => rfl); (case hr => first | (go_simp; done) | (go_simp; rfl)); intro al hg c4 hbox hb; have hP_ := lQ (lB HB) hb; replace HB := aaM hP_.1; have ak := aaM (hbox); have a7 := aaM (gQ hg hP_.2); have a8 := aaM (gQ hg hP_.2); obtain ⟨av, aw⟩ := nS hg aa; replace aa := bY hb aa; obtain ⟨ax, ay⟩ := nS hg ab; replace ab := bY hb ab; obtain ⟨az, a0⟩ := nS hg ac; replace ac := bY hb ac; clear hb hbox hg hP_; refine hK.out _ _ hD (fun hHeld => ?_); clear hK K; refine nU 5 ?_
      refine oU 2 (some 19) (qB 13 1055) HT_ (fun K hK => ?_); refine gU Try.func99 #[.agg #[.int .i64 ae, .int .i64 ag, .int .i64 ah], .agg #[.int .i64 af, .int .i64 ai, .int .i64 aj]] ?_; (with_reducible refine (spread_side.calls ae ag ah af ai aj ao ap _ bt.out).mono ?_); rintro e bw ⟨rfl, hb⟩; refine ⟨_, rfl, ?_⟩; replace aa := bY hb aa; replace ab := bY hb ab; replace ac := bY hb ac; replace ak := bY hb ak; replace HB := aaM (lP (lB HB) hb); (try clear hb); refine hK.out _ _ hD (fun hHeld => ?_); clear hK K; refine nU 19 ?_
      refine oU 5 (some 22) (qB 13 1087) HT_ (fun K hK => ?_); refine gU Try.func99 #[.agg #[.int .i64 af, .int .i64 ai, .int .i64 aj], .agg #[.int .i64 ae, .int .i64 ag, .int .i64 ah]] ?_; (with_reducible refine (spread_side.calls af ai aj ae ag ah aq ar _ bm.out).mono ?_); rintro e bn ⟨rfl, hb⟩; refine ⟨_, rfl, ?_⟩; replace aa := bY hb aa; replace ab := bY hb ab; replace ac := bY hb ac; replace ak := bY hb ak; replace HB := aaM (lP (lB HB) hb); (try clear hb); refine hK.out _ _ hD (fun hHeld => ?_); clear hK K; refine nU 22 ?_
      refine oU 6 (some 23) (qB 13 1151) HT_ (fun K hK => ?_); refine gU Try.func86 #[.agg #[.int .u64 ao, .int .u64 ap], .agg #[.int .u64 aq, .int .u64 ar]] ?_; (with_reducible refine (prod_Add.calls ao ap aq ar a4 a5 a9 _ bg.out).mono ?_); rintro e bo ⟨rfl, hb⟩; refine ⟨_, rfl, ?_⟩; replace aa := bY hb aa; replace ab := bY hb ab; replace ac := bY hb ac; replace ak := bY hb ak; replace HB := aaM (lP (lB HB) hb); (try clear hb); refine hK.out _ _ hD (fun hHeld => ?_); clear hK K; refine nU 23 ?_
      refine pU 7 16 (qB 13 1279) HT_ ?_
      refine pU 8 24 (qB 13 1535) HT_ ?_
      refine pU 9 25 (qB 13 2047) HT_ ?_
      exact norm_ (by simp only [putAll, Act.put, ssB, ssZ, ssS]) (hCont (al) _ ⟨hHeld, (bZ aa), (bZ ab), (bZ ac), (bZ ak), a7.out, a8.out, av.out, aw.out, ax.out, ay.out, az.out, a0.out, (lB HB)⟩)
    rintro al a1 ⟨hS_, h0_, h1_, h2_, h3_, h4_, h5_, h6_, h7_, h8_, h9_, bz, b0, b1⟩; have b2 : Aside0 (a1.heap[am]? = some (.cells #[.int .i64 ae, .int .i64 ag, .int .i64 ah] 54 (0, 0))) := ⟨h0_⟩; have b3 : Aside0 (a1.heap[an]? = some (.cells #[.int .i64 af, .int .i64 ai, .int .i64 aj] 54 (0, 0))) := ⟨h1_⟩; have b4 : Aside0 (a1.heap[a3]? = some (.cells #[.int .u64 0, .int .u64 0, .int .u64 0] 32 (0, 0))) := ⟨h2_⟩; have b5 : Aside0 (a1.heap[al]? = some (.cells #[.int .u64 0, .int .u64 0] 30 (0, 0))) := ⟨h3_⟩; have b6 : Aside0 (w.heap.size ≤ al) := ⟨h4_⟩; have b7 : Aside0 (w.heap.size ≤ al) := ⟨h5_⟩; have b8 : Aside0 (am ≠ al) := ⟨h6_⟩; have b9 : Aside0 (al ≠ am) := ⟨h7_⟩; have ca : Aside0 (an ≠ al) := ⟨h8_⟩; have cb : Aside0 (al ≠ an) := ⟨h9_⟩; have cc : Aside0 (a3 ≠ al) := ⟨bz⟩; have cd : Aside0 (al ≠ a3) := ⟨b0⟩; have ce : Aside0 (Below w.heap.size w a1) := ⟨b1⟩; clear aa ab ac HB h0_ h1_ h2_ h3_ h4_ h5_ h6_ h7_ h8_ h9_ bz b0 b1; have aa := b2; have ab := b3; have ac := b4; have ak := b5; have a7 := b6; have a8 := b7; have av := b8; have aw := b9; have ax := ca; have ay := cb; have az := cc; have a0 := cd; have HB := ce; clear b2 b3 b4 b5 b6 b7 b8 b9 ca cb cc cd ce; have hHeld : a1.cell? ⟨am, 0, none⟩ = some (.int .i64 ae) ∧ a1.cell? ⟨am, 1, none⟩ = some (.int .i64 ag) ∧ a1.cell? ⟨am, 2, none⟩ = some (.int .i64 ah) ∧ a1.cell? ⟨an, 0, none⟩ = some (.int .i64 af) ∧ a1.cell? ⟨an, 1, none⟩ = some (.int .i64 ai) ∧ a1.cell? ⟨an, 2, none⟩ = some (.int .i64 aj) := hS_; refine norm_ (a' := ?_) ?_ ?_; rotate_left
    ·simp only [putAll, Act.put, ssB, ssZ, ssS]
     rfl
    refine oU 11 none (qB 13 4095) HT_ (fun K hK => ?_); obtain ⟨dp, -, dq, -⟩ := bE2 ak.out; have := av.out; have := ax.out; have := az.out; have := aw.out; have := ay.out; have := a0.out; obtain ⟨-, dr, -, dt⟩ := bE2 ak.out; have := av.out; have := ax.out; have := az.out; have := aw.out; have := ay.out; have := a0.out; refine skip_ (w1 := ?_) (by rfl) rfl ?_ ?_; rotate_left
    ·go_simp
     rfl
    refine hK.out _ _ (cH hHeld) (fun hHeld => ?_); clear hK K; refine pU 12 6 (qB 13 8191) HT_ ?_
    refine done_ (done_of HT_.out (by kernel_rfl)) ?_; have := aw.out; have := av.out; have := ay.out; have := ax.out; have := a0.out; have := az.out; obtain ⟨_, _, _, _⟩ := bE2 ak.out; have := bi.out; have := bj.out; have := bc.out; have := bd.out; obtain ⟨_, _, _, _, _, _⟩ := bE3 aa.out; have := bk.out; have := bl.out; obtain ⟨_, _, _, _, _, _⟩ := bE3 ab.out; obtain ⟨_, _, _, _, _, _⟩ := bE3 ac.out; (try go_wp2); refine bodyPost_ret (results_cell_row rfl _ _ a3 32 #[.int .u64 a4, .int .u64 a5, .int .u64 (IntKind.u64.wrap ((IntKind.u64.wrap (ae)) * (IntKind.u64.wrap (af))))] (0, 0) _ rfl (bZ ac) Try.underlying32 rfl (by kernel_rfl)) rfl ?_
    exact ⟨eE, lB HB⟩

-- NOT PRINTED: function 92 (split_means_score)

end Go.Proofs.Ytancajnbjmcamaa.QSplitBest
