-- Written by a program of this session (wip/tools/mkprint.py over the kit's print); Lean checks it.
import Derived.Test.YtancajnbjmcamaaQSplitBestx0
import Derived.Test.YtancajnbjmcamaaQSplitBestx3
import Derived.Test.YtancajnbjmcamaaQSplitBestx4
namespace Go.Proofs.Ytancajnbjmcamaa.QSplitBest
open Go.RowKit Go.Proofs.YtancajnbjmcamaaW.PrintWords Go.Proofs.YtancajnbjmcamaaW.PrintLast Go.Proofs.YtancajnbjmcamaaW.PrintMore
attribute [local go_sem] max2_int min2_int max_two min_two max_three min_three max_four min_four   -- for this text's walks alone
set_option linter.unusedVariables false
set_option linter.unusedSimpArgs false

/-! ### split_means_size: function 93 -/
def split_means_size.f (k : Nat) (a0_0 : Int) (a0_1 : Int) (a0_2 : Int) : Option (Int) := (spread_May.f k a0_0 a0_1 a0_2).bind fun t227 => (if t227 = true then (some a0_0) else (some 0))
theorem split_means_size.mono : ∀ a0 a1 a2 k, LeO (split_means_size.f k a0 a1 a2) (split_means_size.f (k + 1) a0 a1 a2) := by
 intro a0 a1 a2 k
 unfold split_means_size.f
 with_reducible repeat' first | apply spread_May.mono | apply LeO.refl | apply LeO.none | refine LeO.ite ?_ ?_ | refine LeO.bind ?_ (fun _ => ?_)
set_option maxHeartbeats 8000000 in
set_option maxRecDepth 100000 in
theorem split_means_size.calls (k : Nat) (aa : Int) (ab : Int) (ac : Int) (r : Int) (w : World) (h : split_means_size.f k aa ab ac = some r) :
  Calls Try.prog 93 #[.agg #[.int .i64 aa, .int .i64 ab, .int .i64 ac]] w fun e w' => e = .returned (.int .i64 r) ∧ Below w.heap.size w w' := by
 have al := Try.underlying83
 have am := Try.underlying54
 have HB := aaM (Below.refl w.heap.size w)
 have H : ((spread_May.f k aa ab ac).bind fun af => (if af = true then (some aa) else (some 0))) = some r := h
 clear h
 replace H := ooB.mp H
 obtain ⟨af, ah, H⟩ := H
 (try dsimp only at H)
 have A2 := aaM ah
 clear ah
 by_cases c3 : af = true
 ·subst c3
  have H1 : (some aa) = some r := by rw [if_pos rfl] at H; exact H
  clear H; have H := H1; clear H1; obtain rfl := Option.some.inj H; go_enter Try.func93, Try.ntmps93
  go_wp2_with (first | ((with_reducible refine gate_dst (N := 1) rfl ?_); refine bxF w HB 1 #[.int .i64 aa, .int .i64 ab, .int .i64 ac] 83 ?_; intro ai hg w4 hb ae HB ag; have aj := ag; clear hb hg; obtain ⟨_, _, _, _, _, _⟩ := bE3 ae.out) | ((with_reducible refine gate_callee (f := 96) rfl ?_); refine gL (some 5) Try.func96 #[.agg #[.int .i64 aa, .int .i64 ab, .int .i64 ac]] ?_; (with_reducible refine (spread_May.calls k aa ab ac true _ A2.out).mono ?_); rintro e w6 ⟨rfl, hb⟩; refine ⟨_, rfl, ?_⟩; replace ae := bY hb ae; replace HB := aaM (lP (lB HB) hb); (try clear hb); obtain ⟨_, _, _, _, _, _⟩ := bE3 ae.out))
  all_goals (go_ret; exact ⟨by first | rfl | (simp [errW_none, errW_some] <;> rfl) | (simp [*, errW_none, errW_some] <;> rfl) | (simp_all; done), lB HB⟩)
 ·replace c3 := Bool.eq_false_iff.mpr c3
  subst c3
  have H1 : (some 0) = some r := by rw [if_neg (show ¬ (false = true) by decide)] at H; exact H
  clear H; have H := H1; clear H1; obtain rfl := Option.some.inj H; go_enter Try.func93, Try.ntmps93
  go_wp2_with (first | ((with_reducible refine gate_dst (N := 1) rfl ?_); refine bxF w HB 1 #[.int .i64 aa, .int .i64 ab, .int .i64 ac] 83 ?_; intro ai hg w8 hb ae HB ag; have aj := ag; clear hb hg; obtain ⟨_, _, _, _, _, _⟩ := bE3 ae.out) | ((with_reducible refine gate_callee (f := 96) rfl ?_); refine gL (some 5) Try.func96 #[.agg #[.int .i64 aa, .int .i64 ab, .int .i64 ac]] ?_; (with_reducible refine (spread_May.calls k aa ab ac false _ A2.out).mono ?_); rintro e an ⟨rfl, hb⟩; refine ⟨_, rfl, ?_⟩; replace ae := bY hb ae; replace HB := aaM (lP (lB HB) hb); (try clear hb)))
  all_goals (go_ret; exact ⟨by first | rfl | (simp [errW_none, errW_some] <;> rfl) | (simp [*, errW_none, errW_some] <;> rfl) | (simp_all; done), lB HB⟩)

/-! ### hist_may: function 33 -/
def hist_may.f (a0 : Int) (a1 : Int) (a2 : Int) : Option (Bool) := if a1 < 1 then (some false) else (if a1 > 257 then (some false) else (if a0 = 0 then (if a2 ≥ 2 then (if a2 ≤ 256 then (some true) else (if a0 = 1 then (some (a2 == 0)) else (some false))) else (if a0 = 1 then (some (a2 == 0)) else (some false))) else (if a0 = 1 then (some (a2 == 0)) else (some false))))
set_option maxHeartbeats 8000000 in
set_option maxRecDepth 100000 in
theorem hist_may.calls (a0 : Int) (a1 : Int) (a2 : Int) (r : Bool) (w : World) (h : hist_may.f a0 a1 a2 = some r) :
  Calls Try.prog 33 #[.int .i64 a0, .int .i64 a1, .int .i64 a2] w fun e w' => e = .returned (.bool r) ∧ Drawn0 w w' := by
 have H : (if a1 < 1 then (some false) else (if a1 > 257 then (some false) else (if a0 = 0 then (if a2 ≥ 2 then (if a2 ≤ 256 then (some true) else (if a0 = 1 then (some (a2 == 0)) else (some false))) else (if a0 = 1 then (some (a2 == 0)) else (some false))) else (if a0 = 1 then (some (a2 == 0)) else (some false))))) = some r := h
 clear h
 by_cases c4 : a1 < 1
 ·rw [if_pos c4] at H
  have c4b0 : decide (a1 < 1) = true := decide_eq_true c4; clear c4; obtain rfl := Option.some.inj H; go_enter Try.func33, Try.ntmps33; go_wp2
  all_goals (go_ret; exact ⟨eF, by repeat (first | exact Drawn0.refl _ | apply Drawn0.step)⟩)
 ·rw [if_neg c4] at H
  have c4b0 : decide (a1 < 1) = false := decide_eq_false c4; clear c4
  by_cases c5 : a1 > 257
  ·rw [if_pos c5] at H
   have c5b0 : decide (257 < a1) = true := decide_eq_true c5; clear c5; obtain rfl := Option.some.inj H; go_enter Try.func33, Try.ntmps33; go_wp2
   all_goals (go_ret; exact ⟨eF, by repeat (first | exact Drawn0.refl _ | apply Drawn0.step)⟩)
  ·rw [if_neg c5] at H
   have c5b0 : decide (257 < a1) = false := decide_eq_false c5; clear c5
   by_cases c6 : a0 = 0
   ·rw [if_pos c6] at H
    have c6b0 : (a0 == 0) = true := beq_iff_eq.mpr c6; have c6b1 : (a0 != 0) = false := bne_eq_false_iff_eq.mpr c6; clear c6
    by_cases c7 : a2 ≥ 2
    ·rw [if_pos c7] at H
     have c7b0 : decide (2 ≤ a2) = true := decide_eq_true c7; clear c7
     by_cases c8 : a2 ≤ 256
     ·rw [if_pos c8] at H
      have c8b0 : decide (a2 ≤ 256) = true := decide_eq_true c8; clear c8; obtain rfl := Option.some.inj H; go_enter Try.func33, Try.ntmps33; go_wp2
      all_goals (go_ret; exact ⟨eF, by repeat (first | exact Drawn0.refl _ | apply Drawn0.step)⟩)
     ·rw [if_neg c8] at H
      have c8b0 : decide (a2 ≤ 256) = false := decide_eq_false c8; clear c8
      by_cases c9 : a0 = 1
      ·rw [if_pos c9] at H
       have c9b0 : (a0 == 1) = true := beq_iff_eq.mpr c9; have c9b1 : (a0 != 1) = false := bne_eq_false_iff_eq.mpr c9; clear c9; obtain rfl := Option.some.inj H; go_enter Try.func33, Try.ntmps33; go_wp2
       all_goals (go_ret; exact ⟨eF, by repeat (first | exact Drawn0.refl _ | apply Drawn0.step)⟩)
      ·rw [if_neg c9] at H
       have c9b0 : (a0 == 1) = false := beq_eq_false_iff_ne.mpr c9; have c9b1 : (a0 != 1) = true := bne_iff_ne.mpr c9; obtain rfl := Option.some.inj H; go_enter Try.func33, Try.ntmps33; go_wp2
       all_goals (go_ret; exact ⟨eF, by repeat (first | exact Drawn0.refl _ | apply Drawn0.step)⟩)
    ·rw [if_neg c7] at H
     have c7b0 : decide (2 ≤ a2) = false := decide_eq_false c7; clear c7
     by_cases aa : a0 = 1
     ·rw [if_pos aa] at H
      have c10b0 : (a0 == 1) = true := beq_iff_eq.mpr aa; have c10b1 : (a0 != 1) = false := bne_eq_false_iff_eq.mpr aa; clear aa; obtain rfl := Option.some.inj H; go_enter Try.func33, Try.ntmps33; go_wp2
      all_goals (go_ret; exact ⟨eF, by repeat (first | exact Drawn0.refl _ | apply Drawn0.step)⟩)
     ·rw [if_neg aa] at H
      have c10b0 : (a0 == 1) = false := beq_eq_false_iff_ne.mpr aa; have c10b1 : (a0 != 1) = true := bne_iff_ne.mpr aa; obtain rfl := Option.some.inj H; go_enter Try.func33, Try.ntmps33; go_wp2
      all_goals (go_ret; exact ⟨eF, by repeat (first | exact Drawn0.refl _ | apply Drawn0.step)⟩)
   ·rw [if_neg c6] at H
    have c6b0 : (a0 == 0) = false := beq_eq_false_iff_ne.mpr c6; have c6b1 : (a0 != 0) = true := bne_iff_ne.mpr c6
    by_cases ab : a0 = 1
    ·rw [if_pos ab] at H
     have c11b0 : (a0 == 1) = true := beq_iff_eq.mpr ab; have c11b1 : (a0 != 1) = false := bne_eq_false_iff_eq.mpr ab; clear ab; obtain rfl := Option.some.inj H; go_enter Try.func33, Try.ntmps33; go_wp2
     all_goals (go_ret; exact ⟨eF, by repeat (first | exact Drawn0.refl _ | apply Drawn0.step)⟩)
    ·rw [if_neg ab] at H
     have c11b0 : (a0 == 1) = false := beq_eq_false_iff_ne.mpr ab; have c11b1 : (a0 != 1) = true := bne_iff_ne.mpr ab; obtain rfl := Option.some.inj H; go_enter Try.func33, Try.ntmps33; go_wp2
     all_goals (go_ret; exact ⟨eF, by repeat (first | exact Drawn0.refl _ | apply Drawn0.step)⟩)

/-! ### hist_Right: function 18 -/
def hist_Right.f (a0_0 : Int) (a0_1 : Int) (a0_2 : Int) (l0_3 : List Int) (l0_4 : List (S54)) : Option (Bool) := (hist_may.f a0_0 a0_1 a0_2).bind fun t229 => (if t229 = true then (if a0_0 = 0 then (if (l0_3.length : Int) = (wrap64 (a0_1 * a0_2)) then (some ((l0_4.length : Int) == 0)) else (some false)) else (if (l0_3.length : Int) = 0 then (some ((l0_4.length : Int) == a0_1)) else (some false))) else (some false))
set_option maxHeartbeats 8000000 in
set_option maxRecDepth 100000 in
theorem hist_Right.calls (ac : Int) (aa : Int) (ae : Int) (aj : Option Addr) (ak : Nat) (ab : List Int) (al : Option Addr) (am : Nat) (af : List (S54)) (r : Bool) (w : World) (aq : Kd.C (Kd.int .i64) w aj ab.length ab) (ar : ab.length ≤ ak) (au : Kd.C k54 w al af.length af) (av : af.length ≤ am) (h : hist_Right.f ac aa ae ab af = some r) :
  Calls Try.prog 18 #[.agg #[.int .i64 ac, .int .i64 aa, .int .i64 ae, .slice aj ab.length ak, .slice al af.length am]] w fun e w' => e = .returned (.bool r) ∧ Below w.heap.size w w' := by
 have ax := Try.underlying25
 have ay := aaM aq
 have az := aaM ar
 clear aq ar
 have a0 := aaM au
 have a1 := aaM av
 clear au av
 have HB := aaM (Below.refl w.heap.size w)
 have H : ((hist_may.f ac aa ae).bind fun an => (if an = true then (if ac = 0 then (if (ab.length : Int) = (wrap64 (aa * ae)) then (some ((af.length : Int) == 0)) else (some false)) else (if (ab.length : Int) = 0 then (some ((af.length : Int) == aa)) else (some false))) else (some false))) = some r := h
 clear h
 replace H := ooB.mp H
 obtain ⟨an, aw, H⟩ := H
 (try dsimp only at H)
 have A2 := aaM aw
 clear aw
 by_cases c3 : an = true
 ·subst c3
  have H1 : (if ac = 0 then (if (ab.length : Int) = (wrap64 (aa * ae)) then (some ((af.length : Int) == 0)) else (some false)) else (if (ab.length : Int) = 0 then (some ((af.length : Int) == aa)) else (some false))) = some r := by rw [if_pos rfl] at H; exact H
  clear H; have H := H1; clear H1
  by_cases c4 : ac = 0
  ·rw [if_pos c4] at H
   have c4b0 : (ac == 0) = true := beq_iff_eq.mpr c4; have c4b1 : (ac != 0) = false := bne_eq_false_iff_eq.mpr c4; clear c4
   by_cases c5 : (ab.length : Int) = (wrap64 (aa * ae))
   ·rw [if_pos c5] at H
    have c5b0 : ((ab.length : Int) == (wrap64 (aa * ae))) = true := beq_iff_eq.mpr c5; have c5b1 : ((ab.length : Int) != (wrap64 (aa * ae))) = false := bne_eq_false_iff_eq.mpr c5; clear c5; obtain rfl := Option.some.inj H; go_enter Try.func18, Try.ntmps18
    go_wp2_with (first | ((with_reducible refine gate_dst (N := 1) rfl ?_); (try (refine gate_guard (by rfl) ?_; dsimp only)); refine bxF w HB 1 #[.int .i64 ac, .int .i64 aa, .int .i64 ae, .slice aj ab.length ak, .slice al af.length am] 25 ?_; intro ao hg w6 hb ag HB ah; have ap := ah; clear hb hg; obtain ⟨_, _, _, _, _, _, _, _, _, _⟩ := bE5 ag.out) | ((with_reducible refine gate_callee (f := 33) rfl ?_); refine gL (some 9) Try.func33 #[.int .i64 ac, .int .i64 aa, .int .i64 ae] ?_; (with_reducible refine (hist_may.calls ac aa ae true _ A2.out).mono ?_); rintro e w' ⟨rfl, ⟨nd, rfl⟩⟩; refine ⟨_, rfl, ?_⟩))
    all_goals (go_ret; exact ⟨by first | rfl | (simp [errW_none, errW_some] <;> rfl) | (simp [*, errW_none, errW_some] <;> rfl) | (simp_all; done), lB HB⟩)
   ·rw [if_neg c5] at H
    have c5b0 : ((ab.length : Int) == (wrap64 (aa * ae))) = false := beq_eq_false_iff_ne.mpr c5; have c5b1 : ((ab.length : Int) != (wrap64 (aa * ae))) = true := bne_iff_ne.mpr c5; obtain rfl := Option.some.inj H; go_enter Try.func18, Try.ntmps18
    go_wp2_with (first | ((with_reducible refine gate_dst (N := 1) rfl ?_); (try (refine gate_guard (by rfl) ?_; dsimp only)); refine bxF w HB 1 #[.int .i64 ac, .int .i64 aa, .int .i64 ae, .slice aj ab.length ak, .slice al af.length am] 25 ?_; intro ao hg w8 hb ag HB ah; have ap := ah; clear hb hg; obtain ⟨_, _, _, _, _, _, _, _, _, _⟩ := bE5 ag.out) | ((with_reducible refine gate_callee (f := 33) rfl ?_); refine gL (some 9) Try.func33 #[.int .i64 ac, .int .i64 aa, .int .i64 ae] ?_; (with_reducible refine (hist_may.calls ac aa ae true _ A2.out).mono ?_); rintro e w' ⟨rfl, ⟨nd, rfl⟩⟩; refine ⟨_, rfl, ?_⟩))
    all_goals (go_ret; exact ⟨by first | rfl | (simp [errW_none, errW_some] <;> rfl) | (simp [*, errW_none, errW_some] <;> rfl) | (simp_all; done), lB HB⟩)
  ·rw [if_neg c4] at H
   have c4b0 : (ac == 0) = false := beq_eq_false_iff_ne.mpr c4; have c4b1 : (ac != 0) = true := bne_iff_ne.mpr c4
   by_cases ai : (ab.length : Int) = 0
   ·rw [if_pos ai] at H
    have c10b0 : ((ab.length : Int) == 0) = true := beq_iff_eq.mpr ai; have c10b1 : ((ab.length : Int) != 0) = false := bne_eq_false_iff_eq.mpr ai; clear ai; obtain rfl := Option.some.inj H; go_enter Try.func18, Try.ntmps18
    go_wp2_with (first | ((with_reducible refine gate_dst (N := 1) rfl ?_); (try (refine gate_guard (by rfl) ?_; dsimp only)); refine bxF w HB 1 #[.int .i64 ac, .int .i64 aa, .int .i64 ae, .slice aj ab.length ak, .slice al af.length am] 25 ?_; intro ao hg a2 hb ag HB ah; have ap := ah; clear hb hg; obtain ⟨_, _, _, _, _, _, _, _, _, _⟩ := bE5 ag.out) | ((with_reducible refine gate_callee (f := 33) rfl ?_); refine gL (some 9) Try.func33 #[.int .i64 ac, .int .i64 aa, .int .i64 ae] ?_; (with_reducible refine (hist_may.calls ac aa ae true _ A2.out).mono ?_); rintro e w' ⟨rfl, ⟨nd, rfl⟩⟩; refine ⟨_, rfl, ?_⟩))
    all_goals (go_ret; exact ⟨by first | rfl | (simp [errW_none, errW_some] <;> rfl) | (simp [*, errW_none, errW_some] <;> rfl) | (simp_all; done), lB HB⟩)
   ·rw [if_neg ai] at H
    have c10b0 : ((ab.length : Int) == 0) = false := beq_eq_false_iff_ne.mpr ai; have c10b1 : ((ab.length : Int) != 0) = true := bne_iff_ne.mpr ai
    have c10b2 : ¬ (ab = []) := fun h_ => ai (by rw [h_]; rfl)
    obtain rfl := Option.some.inj H; go_enter Try.func18, Try.ntmps18
    go_wp2_with (first | ((with_reducible refine gate_dst (N := 1) rfl ?_); (try (refine gate_guard (by rfl) ?_; dsimp only)); refine bxF w HB 1 #[.int .i64 ac, .int .i64 aa, .int .i64 ae, .slice aj ab.length ak, .slice al af.length am] 25 ?_; intro ao hg a3 hb ag HB ah; have ap := ah; clear hb hg; obtain ⟨_, _, _, _, _, _, _, _, _, _⟩ := bE5 ag.out) | ((with_reducible refine gate_callee (f := 33) rfl ?_); refine gL (some 9) Try.func33 #[.int .i64 ac, .int .i64 aa, .int .i64 ae] ?_; (with_reducible refine (hist_may.calls ac aa ae true _ A2.out).mono ?_); rintro e w' ⟨rfl, ⟨nd, rfl⟩⟩; refine ⟨_, rfl, ?_⟩))
    all_goals (go_ret; exact ⟨by first | rfl | (simp [errW_none, errW_some] <;> rfl) | (simp [*, errW_none, errW_some] <;> rfl) | (simp_all; done), lB HB⟩)
 ·replace c3 := Bool.eq_false_iff.mpr c3
  subst c3
  have H1 : (some false) = some r := by rw [if_neg (show ¬ (false = true) by decide)] at H; exact H
  clear H; have H := H1; clear H1; obtain rfl := Option.some.inj H; go_enter Try.func18, Try.ntmps18
  go_wp2_with (first | ((with_reducible refine gate_dst (N := 1) rfl ?_); (try (refine gate_guard (by rfl) ?_; dsimp only)); refine bxF w HB 1 #[.int .i64 ac, .int .i64 aa, .int .i64 ae, .slice aj ab.length ak, .slice al af.length am] 25 ?_; intro ao hg a4 hb ag HB ah; have ap := ah; clear hb hg; obtain ⟨_, _, _, _, _, _, _, _, _, _⟩ := bE5 ag.out) | ((with_reducible refine gate_callee (f := 33) rfl ?_); refine gL (some 9) Try.func33 #[.int .i64 ac, .int .i64 aa, .int .i64 ae] ?_; (with_reducible refine (hist_may.calls ac aa ae false _ A2.out).mono ?_); rintro e w' ⟨rfl, ⟨nd, rfl⟩⟩; refine ⟨_, rfl, ?_⟩))
  all_goals (go_ret; exact ⟨by first | rfl | (simp [errW_none, errW_some] <;> rfl) | (simp [*, errW_none, errW_some] <;> rfl) | (simp_all; done), lB HB⟩)

-- NOT PRINTED: function 49 (hist_moments)

/-! ### hist_Sum: function 34 -/
set_option maxHeartbeats 4000000 in
theorem hist_moments.calls (w : World) : Calls Try.prog 49 #[.func (.func 50) #[] #[]] w fun e w' => ∃ g, e = .returned (.func (.func 61) #[] #[.pointer (some ⟨g, 0, none⟩)]) ∧ w'.cell? ⟨g, 0, none⟩ = some (.func (.func 50) #[] #[]) ∧ Below w.heap.size w w' := by
 go_enter Try.func49, Try.ntmps49
 go_wp2
 go_ret
 exact ⟨_, rfl, (bC (blk_new _ _) 0).trans rfl, lA (Below.refl _ _) _⟩
mutual
def hist_Sum.j0 : Nat → Int → Int → List Int → Int → Int → Int → List Int → List (S54) → Option (List Int × Int × Int × Int × Int)
 | 0, _, _, _, _, _, _, _, _ => none
 | k + 1, x1, x2, x9, x231000, x231001, x231002, x231003, x231004 => hist_Sum.l0 k x2 x9 x1 x231000 x231001 x231002 x231003 x231004 0 0 0
def hist_Sum.l0 : Nat → Int → List Int → Int → Int → Int → Int → List Int → List (S54) → Int → Int → Int → Option (List Int × Int × Int × Int × Int)
 | 0, _, _, _, _, _, _, _, _, _, _, _ => none
 | k + 1, x2, x9, x11, x231000, x231001, x231002, x231003, x231004, x237000, x237001, x237002 => if x11 < x2 then (hist_Sum.l1 k x2 x9 x11 (x9.length : Int) 0 x231000 x231001 x231002 x231003 x231004 x237000 x237001 x237002) else (some (x9, x237000, x237001, x237002, 0))
def hist_Sum.l1 : Nat → Int → List Int → Int → Int → Int → Int → Int → Int → List Int → List (S54) → Int → Int → Int → Option (List Int × Int × Int × Int × Int)
 | 0, _, _, _, _, _, _, _, _, _, _, _, _, _ => none
 | k + 1, x2, x9, x11, x50, x51, x231000, x231001, x231002, x231003, x231004, x237000, x237001, x237002 => if x51 < x50 then (if 0 ≤ x51 then (if x51 < (x9.length : Int) then (if 0 ≤ (wrap64 ((wrap64 (x11 * x231002)) + x51)) then (if (wrap64 ((wrap64 (x11 * x231002)) + x51)) < (x231003.length : Int) then ((prod_Plus.f (rd x9 x51) (rd x231003 (wrap64 ((wrap64 (x11 * x231002)) + x51)))).bind fun bt239 => (if bt239.2 = 0 then (hist_Sum.l1 k x2 (x9.set (x51 : Int).toNat bt239.1) x11 x50 (wrap64 (x51 + 1)) x231000 x231001 x231002 x231003 x231004 x237000 x237001 x237002) else (some (([] : List Int), 0, 0, 0, bt239.2)))) else (none)) else (none)) else (none)) else (none)) else (if x231000 = 1 then (if 0 ≤ x11 then (if x11 < (x231004.length : Int) then ((hist_moments_1.f x237000 x237001 x237002 ((rd_T54 x231004 x11).f0) ((rd_T54 x231004 x11).f1) ((rd_T54 x231004 x11).f2)).bind fun bt243 => (if bt243.2.2.2 = 0 then (hist_Sum.l0 k x2 x9 (wrap64 (x11 + 1)) x231000 x231001 x231002 x231003 x231004 bt243.1 bt243.2.1 bt243.2.2.1) else (some (([] : List Int), 0, 0, 0, bt243.2.2.2)))) else (none)) else (none)) else (hist_Sum.l0 k x2 x9 (wrap64 (x11 + 1)) x231000 x231001 x231002 x231003 x231004 x237000 x237001 x237002))
end
def hist_Sum.f (k : Nat) (a0_0 : Int) (a0_1 : Int) (a0_2 : Int) (l0_3 : List Int) (l0_4 : List (S54)) (a1 : Int) (a2 : Int) : Option (List Int × Int × Int × Int × Int) := (hist_Right.f a0_0 a0_1 a0_2 l0_3 l0_4).bind fun t232 => (if t232 = true then (if a1 < 0 then (some (([] : List Int), 0, 0, 0, 1)) else (if a1 > a2 then (some (([] : List Int), 0, 0, 0, 1)) else (if a2 > a0_1 then (some (([] : List Int), 0, 0, 0, 1)) else (if a0_0 = 0 then (if 0 ≤ a0_2 then (if (a0_2 : Int).toNat ≤ 35184372088832 then (hist_Sum.j0 k a1 a2 (List.replicate (a0_2 : Int).toNat 0) a0_0 a0_1 a0_2 l0_3 l0_4) else (none)) else (none)) else (hist_Sum.j0 k a1 a2 ([] : List Int) a0_0 a0_1 a0_2 l0_3 l0_4))))) else (some (([] : List Int), 0, 0, 0, 8)))
theorem hist_Sum.mono_l : ∀ k, (∀ y0 y1 y2 y3 y4 y5 y6 y7, LeO (hist_Sum.j0 k y0 y1 y2 y3 y4 y5 y6 y7) (hist_Sum.j0 (k + 1) y0 y1 y2 y3 y4 y5 y6 y7)) ∧ (∀ y0 y1 y2 y3 y4 y5 y6 y7 y8 y9 y10, LeO (hist_Sum.l0 k y0 y1 y2 y3 y4 y5 y6 y7 y8 y9 y10) (hist_Sum.l0 (k + 1) y0 y1 y2 y3 y4 y5 y6 y7 y8 y9 y10)) ∧ (∀ y0 y1 y2 y3 y4 y5 y6 y7 y8 y9 y10 y11 y12, LeO (hist_Sum.l1 k y0 y1 y2 y3 y4 y5 y6 y7 y8 y9 y10 y11 y12) (hist_Sum.l1 (k + 1) y0 y1 y2 y3 y4 y5 y6 y7 y8 y9 y10 y11 y12))
 | 0 => ⟨fun _ _ _ _ _ _ _ _ r h => by simp [hist_Sum.j0] at h, fun _ _ _ _ _ _ _ _ _ _ _ r h => by simp [hist_Sum.l0] at h, fun _ _ _ _ _ _ _ _ _ _ _ _ _ r h => by simp [hist_Sum.l1] at h⟩
 | k + 1 => by
  obtain ⟨ih0, ih1, ih2⟩ := hist_Sum.mono_l k
  refine ⟨?_, ?_, ?_⟩
  all_goals (intros; first | unfold hist_Sum.j0 | unfold hist_Sum.l0 | unfold hist_Sum.l1)
  all_goals with_reducible repeat' first | apply ih0 | apply ih1 | apply ih2 | apply LeO.refl | apply LeO.none | refine LeO.ite ?_ ?_ | refine LeO.bind ?_ (fun _ => ?_)
theorem hist_Sum.mono : ∀ a0 a1 a2 a3 a4 a5 a6 k, LeO (hist_Sum.f k a0 a1 a2 a3 a4 a5 a6) (hist_Sum.f (k + 1) a0 a1 a2 a3 a4 a5 a6) := by
 intro a0 a1 a2 a3 a4 a5 a6 k
 obtain ⟨ih0, ih1, ih2⟩ := hist_Sum.mono_l k
 unfold hist_Sum.f
 with_reducible repeat' first | apply ih0 | apply ih1 | apply ih2 | apply LeO.refl | apply LeO.none | refine LeO.ite ?_ ?_ | refine LeO.bind ?_ (fun _ => ?_)
def hist_Sum.T15 : Bool × List (List Nat × List Nat) := (true, [([], []), ([], []), ([0, 1], [0, 1]), ([2], [2]), ([], []), ([4], [4]), ([], []), ([], []), ([7], [7]), ([6, 8], [6, 8]), ([], []), ([9, 10], [9, 10]), ([5, 11], [5, 11]), ([12], [12]), ([3, 13], [3, 13]), ([14], [14]), ([15], [15]), ([15], [15]), ([16, 14, 0, 1, 2, 3, 4, 5, 6, 7, 8, 9, 10, 11, 12, 13, 14, 15, 16], [16]), ([17, 18, 0, 1, 2, 3, 4, 5, 6, 7, 8, 9, 10, 11, 12, 13, 14, 15, 16, 17, 18], [17])])
def hist_Sum.B15 : List Nat := [0, 0, 3, 7, 0, 16, 0, 0, 128, 448, 0, 1984, 4080, 8176, 16383, 32767, 65535, 65535, 131071, 524287]
theorem hist_Sum.tab15 : rtab .any (opsOf Try.f34 15) = hist_Sum.T15 := by kernel_rfl
theorem hist_Sum.bits15 : waitsOk hist_Sum.T15.2 hist_Sum.B15 = true := by kernel_rfl
def hist_Sum.T21 : Bool × List (List Nat × List Nat) := (true, [([], []), ([], []), ([], []), ([2], [2]), ([], []), ([3, 4], [3, 4]), ([5], [5]), ([0, 1, 6, 0], [0, 1, 6]), ([7], [7]), ([8], [8]), ([8], [8]), ([], []), ([11, 9, 7, 0, 1, 2, 3, 4, 5, 6, 7, 8, 9, 11], [9, 11]), ([10, 12, 0, 1, 2, 3, 4, 5, 6, 7, 8, 9, 10, 11, 12], [10])])
def hist_Sum.B21 : List Nat := [0, 0, 0, 4, 0, 28, 60, 127, 255, 511, 511, 0, 3071, 8191]
theorem hist_Sum.tab21 : rtab .any (opsOf Try.f34 21) = hist_Sum.T21 := by kernel_rfl
theorem hist_Sum.bits21 : waitsOk hist_Sum.T21.2 hist_Sum.B21 = true := by kernel_rfl
set_option maxHeartbeats 8000000 in
set_option maxRecDepth 100000 in
theorem hist_Sum.calls (k : Nat) (ai : Int) (al : Int) (ah : Int) (a7 : Option Addr) (a5 : Nat) (aj : List Int) (bb : Option Addr) (a6 : Nat) (ac : List (S54)) (a1 : Int) (a2 : Int) (r1 : List Int) (r2 : Int) (r3 : Int) (r4 : Int) (r5 : Int) (w : World) (gx : Kd.C (Kd.int .i64) w a7 aj.length aj) (gy : aj.length ≤ a5) (gz : Kd.C k54 w bb ac.length ac) (g0 : ac.length ≤ a6) (h : hist_Sum.f k ai al ah aj ac a1 a2 = some (r1, r2, r3, r4, r5)) :
  Calls Try.prog 34 #[.agg #[.int .i64 ai, .int .i64 al, .int .i64 ah, .slice a7 aj.length a5, .slice bb ac.length a6], .int .i64 a1, .int .i64 a2] w fun e w' => ∃ g1 : Value, e = .returned (.tuple #[g1, .agg #[.int .i64 r2, .int .i64 r3, .int .i64 r4], .int .i64 r5]) ∧ Kd.R (Kd.int .i64) 2 w' w.heap.size (fun _ => True) g1 r1 ∧ Below w.heap.size w w' := by
 have ix := Try.underlying25
 have iy := Try.underlying54
 have b8 := aaM gx
 have ch := aaM gy
 clear gx gy
 have b9 := aaM gz
 have ci := aaM g0
 clear gz g0
 have HB := aaM (Below.refl w.heap.size w)
 have H : ((hist_Right.f ai al ah aj ac).bind fun c0 => (if c0 = true then (if a1 < 0 then (some (([] : List Int), 0, 0, 0, 1)) else (if a1 > a2 then (some (([] : List Int), 0, 0, 0, 1)) else (if a2 > al then (some (([] : List Int), 0, 0, 0, 1)) else (if ai = 0 then (if 0 ≤ ah then (if (ah : Int).toNat ≤ 35184372088832 then (hist_Sum.j0 k a1 a2 (List.replicate (ah : Int).toNat 0) ai al ah aj ac) else (none)) else (none)) else (hist_Sum.j0 k a1 a2 ([] : List Int) ai al ah aj ac))))) else (some (([] : List Int), 0, 0, 0, 8)))) = some (r1, r2, r3, r4, r5) := h
 clear h
 replace H := ooB.mp H
 obtain ⟨c0, g2, H⟩ := H
 (try dsimp only at H)
 have A4 := aaM g2
 clear g2
 by_cases c5 : c0 = true
 ·subst c5
  have H1 : (if a1 < 0 then (some (([] : List Int), 0, 0, 0, 1)) else (if a1 > a2 then (some (([] : List Int), 0, 0, 0, 1)) else (if a2 > al then (some (([] : List Int), 0, 0, 0, 1)) else (if ai = 0 then (if 0 ≤ ah then (if (ah : Int).toNat ≤ 35184372088832 then (hist_Sum.j0 k a1 a2 (List.replicate (ah : Int).toNat 0) ai al ah aj ac) else (none)) else (none)) else (hist_Sum.j0 k a1 a2 ([] : List Int) ai al ah aj ac))))) = some (r1, r2, r3, r4, r5) := by rw [if_pos rfl] at H; exact H
  clear H; have H := H1; clear H1
  by_cases c6 : a1 < 0
  ·rw [if_pos c6] at H
   have c6b0 : decide (a1 < 0) = true := decide_eq_true c6; clear c6; simp only [Option.some.injEq, Prod.mk.injEq] at H; obtain ⟨rfl, rfl, rfl, rfl, rfl⟩ := H; go_enter Try.func34, Try.ntmps34
   go_wp2_with (first | ((with_reducible refine gate_dst (N := 3) rfl ?_); refine bxF w HB 3 #[.int .i64 ai, .int .i64 al, .int .i64 ah, .slice a7 aj.length a5, .slice bb ac.length a6] 25 ?_; intro ao hg w7 hb aa HB bp; have c7 := bp; clear hb hg) | ((with_reducible refine gate_dst (N := 7) rfl ?_); refine bxF w HB 7 #[.int .i64 0, .int .i64 0, .int .i64 0] 54 ?_; intro ay hg w8 hb ab HB bq; have c8 := bq; obtain ⟨bc, bd⟩ := nS hg aa; replace aa := bY hb aa; clear hb hg; have := bc.out; have := bd.out; obtain ⟨dj, dk, dl, dm, dn, dp, dq, dr, dt, du⟩ := bE5 aa.out) | ((with_reducible refine gate_callee (f := 18) rfl ?_); refine gL (some 19) Try.func18 #[.agg #[.int .i64 ai, .int .i64 al, .int .i64 ah, .slice a7 aj.length a5, .slice bb ac.length a6]] ?_; (with_reducible refine (hist_Right.calls ai al ah _ _ aj _ _ ac true _ ?side1 ?side2 ?side3 ?side4 A4.out).mono ?_); (case side1 => exact cZ (ccB b8.out HB.out)); (case side2 => exact ch.out); (case side3 => exact cZ (ccB b9.out HB.out)); (case side4 => exact ci.out); rintro e iz ⟨rfl, hb⟩; refine ⟨_, rfl, ?_⟩; replace aa := bY hb aa; replace ab := bY hb ab; replace HB := aaM (lP (lB HB) hb); (try clear hb); obtain ⟨dv, dw, dx, dy, dz, d0⟩ := bE3 ab.out))
   refine bodyPost_ret (results_list (rs := [.tmp 6, .cell 7 54, .tmp 8]) rfl (by simp) (.tmp (.cell ay 54 #[.int .i64 0, .int .i64 0, .int .i64 0] (0, 0) _ rfl (bZ ab) Try.underlying54 rfl (by kernel_rfl) (.tmp .nil)))) rfl ?_
   exact ⟨_, eE, by first | exact Kd.R_nil _ _ _ _ _ | exact Kd.N_nil _ _ _ _ _ | exact Kd.V_nil _ _ _ _ _ | exact Kd.Q_nil _ _ _ _ _ | exact Kd.S_nil _ _ _ _ _, lB HB⟩
  ·rw [if_neg c6] at H
   have c6b0 : decide (a1 < 0) = false := decide_eq_false c6; clear c6
   by_cases bs : a1 > a2
   ·rw [if_pos bs] at H
    have c13b0 : decide (a2 < a1) = true := decide_eq_true bs; clear bs; simp only [Option.some.injEq, Prod.mk.injEq] at H; obtain ⟨rfl, rfl, rfl, rfl, rfl⟩ := H; go_enter Try.func34, Try.ntmps34
    go_wp2_with (first | ((with_reducible refine gate_dst (N := 3) rfl ?_); refine bxF w HB 3 #[.int .i64 ai, .int .i64 al, .int .i64 ah, .slice a7 aj.length a5, .slice bb ac.length a6] 25 ?_; intro ao hg i0 hb aa HB bp; have c7 := bp; clear hb hg) | ((with_reducible refine gate_dst (N := 7) rfl ?_); refine bxF w HB 7 #[.int .i64 0, .int .i64 0, .int .i64 0] 54 ?_; intro ay hg i1 hb ab HB bq; have c8 := bq; obtain ⟨bc, bd⟩ := nS hg aa; replace aa := bY hb aa; clear hb hg; have := bc.out; have := bd.out; obtain ⟨d1, d2, d3, d4, d5, d6, d7, d8, d9, ea⟩ := bE5 aa.out) | ((with_reducible refine gate_callee (f := 18) rfl ?_); refine gL (some 19) Try.func18 #[.agg #[.int .i64 ai, .int .i64 al, .int .i64 ah, .slice a7 aj.length a5, .slice bb ac.length a6]] ?_; (with_reducible refine (hist_Right.calls ai al ah _ _ aj _ _ ac true _ ?side1 ?side2 ?side3 ?side4 A4.out).mono ?_); (case side1 => exact cZ (ccB b8.out HB.out)); (case side2 => exact ch.out); (case side3 => exact cZ (ccB b9.out HB.out)); (case side4 => exact ci.out); rintro e i2 ⟨rfl, hb⟩; refine ⟨_, rfl, ?_⟩; replace aa := bY hb aa; replace ab := bY hb ab; replace HB := aaM (lP (lB HB) hb); (try clear hb); obtain ⟨eb, ec, ed, ee, ef, eg⟩ := bE3 ab.out))
    refine bodyPost_ret (results_list (rs := [.tmp 6, .cell 7 54, .tmp 8]) rfl (by simp) (.tmp (.cell ay 54 #[.int .i64 0, .int .i64 0, .int .i64 0] (0, 0) _ rfl (bZ ab) Try.underlying54 rfl (by kernel_rfl) (.tmp .nil)))) rfl ?_
    exact ⟨_, eE, by first | exact Kd.R_nil _ _ _ _ _ | exact Kd.N_nil _ _ _ _ _ | exact Kd.V_nil _ _ _ _ _ | exact Kd.Q_nil _ _ _ _ _ | exact Kd.S_nil _ _ _ _ _, lB HB⟩
   ·rw [if_neg bs] at H
    have c13b0 : decide (a2 < a1) = false := decide_eq_false bs; clear bs
    by_cases bt : a2 > al
    ·rw [if_pos bt] at H
     have c20b0 : decide (al < a2) = true := decide_eq_true bt; clear bt; simp only [Option.some.injEq, Prod.mk.injEq] at H; obtain ⟨rfl, rfl, rfl, rfl, rfl⟩ := H; go_enter Try.func34, Try.ntmps34
     go_wp2_with (first | ((with_reducible refine gate_dst (N := 3) rfl ?_); refine bxF w HB 3 #[.int .i64 ai, .int .i64 al, .int .i64 ah, .slice a7 aj.length a5, .slice bb ac.length a6] 25 ?_; intro ao hg i3 hb aa HB bp; have c7 := bp; clear hb hg) | ((with_reducible refine gate_dst (N := 7) rfl ?_); refine bxF w HB 7 #[.int .i64 0, .int .i64 0, .int .i64 0] 54 ?_; intro ay hg i4 hb ab HB bq; have c8 := bq; obtain ⟨bc, bd⟩ := nS hg aa; replace aa := bY hb aa; clear hb hg; have := bc.out; have := bd.out; obtain ⟨eh, ei, ej, ek, el, em, en, ep, er, es⟩ := bE5 aa.out) | ((with_reducible refine gate_callee (f := 18) rfl ?_); refine gL (some 19) Try.func18 #[.agg #[.int .i64 ai, .int .i64 al, .int .i64 ah, .slice a7 aj.length a5, .slice bb ac.length a6]] ?_; (with_reducible refine (hist_Right.calls ai al ah _ _ aj _ _ ac true _ ?side1 ?side2 ?side3 ?side4 A4.out).mono ?_); (case side1 => exact cZ (ccB b8.out HB.out)); (case side2 => exact ch.out); (case side3 => exact cZ (ccB b9.out HB.out)); (case side4 => exact ci.out); rintro e i5 ⟨rfl, hb⟩; refine ⟨_, rfl, ?_⟩; replace aa := bY hb aa; replace ab := bY hb ab; replace HB := aaM (lP (lB HB) hb); (try clear hb); obtain ⟨et, eu, ev, ew, ex, ey, ez, e0, e1, e2⟩ := bE5 aa.out; obtain ⟨e3, e4, e5, e6, e7, e8⟩ := bE3 ab.out))
     refine bodyPost_ret (results_list (rs := [.tmp 6, .cell 7 54, .tmp 8]) rfl (by simp) (.tmp (.cell ay 54 #[.int .i64 0, .int .i64 0, .int .i64 0] (0, 0) _ rfl (bZ ab) Try.underlying54 rfl (by kernel_rfl) (.tmp .nil)))) rfl ?_
     exact ⟨_, eE, by first | exact Kd.R_nil _ _ _ _ _ | exact Kd.N_nil _ _ _ _ _ | exact Kd.V_nil _ _ _ _ _ | exact Kd.Q_nil _ _ _ _ _ | exact Kd.S_nil _ _ _ _ _, lB HB⟩
    ·rw [if_neg bt] at H
     have c20b0 : decide (al < a2) = false := decide_eq_false bt; clear bt; have e9 := aaM H; clear H; go_enter Try.func34, Try.ntmps34
     go_upto_if 39 with (first | ((with_reducible refine gate_dst (N := 3) rfl ?_); refine bxF w HB 3 #[.int .i64 ai, .int .i64 al, .int .i64 ah, .slice a7 aj.length a5, .slice bb ac.length a6] 25 ?_; intro ao hg i6 hb aa HB bp; have c7 := bp; clear hb hg) | ((with_reducible refine gate_dst (N := 7) rfl ?_); refine bxF w HB 7 #[.int .i64 0, .int .i64 0, .int .i64 0] 54 ?_; intro ay hg i7 hb ab HB bq; have c8 := bq; obtain ⟨bc, bd⟩ := nS hg aa; replace aa := bY hb aa; clear hb hg; have := bc.out; have := bd.out; obtain ⟨fa, fb, fc, fd, fe, ff, fg, fh, fi, fj⟩ := bE5 aa.out) | ((with_reducible refine gate_callee (f := 18) rfl ?_); refine gL (some 19) Try.func18 #[.agg #[.int .i64 ai, .int .i64 al, .int .i64 ah, .slice a7 aj.length a5, .slice bb ac.length a6]] ?_; (with_reducible refine (hist_Right.calls ai al ah _ _ aj _ _ ac true _ ?side1 ?side2 ?side3 ?side4 A4.out).mono ?_); (case side1 => exact cZ (ccB b8.out HB.out)); (case side2 => exact ch.out); (case side3 => exact cZ (ccB b9.out HB.out)); (case side4 => exact ci.out); rintro e i8 ⟨rfl, hb⟩; refine ⟨_, rfl, ?_⟩; replace aa := bY hb aa; replace ab := bY hb ab; replace HB := aaM (lP (lB HB) hb); (try clear hb); obtain ⟨fk, fl, fm, fo, fp, fq, fr, fs, ft, fu⟩ := bE5 aa.out))
     (try simp only [Act.put, ssB, ssZ, ssS])
     go_cut [9] (fun v9 wc => ∃ (kq : Nat) (da : List Int), Aside0 (hist_Sum.j0 kq a1 a2 da ai al ah aj ac = some (r1, r2, r3, r4, r5)) ∧ Aside0 (kq ≤ k) ∧ Aside0 (Kd.R (Kd.int .i64) 2 wc w.heap.size (fun _ => True) v9 da) ∧ Aside0 (wc.heap[ao]? = some (.cells #[.int .i64 ai, .int .i64 al, .int .i64 ah, (.slice a7 aj.length a5), (.slice bb ac.length a6)] 25 (0, 0))) ∧ Aside0 (wc.heap[ay]? = some (.cells #[.int .i64 0, .int .i64 0, .int .i64 0] 54 (0, 0))) ∧ Aside0 (Below w.heap.size w wc))
     case first =>
      have H := e9.out; clear e9
      by_cases bl : ai = 0
      ·rw [if_pos bl] at H
       have c35b0 : (ai == 0) = true := beq_iff_eq.mpr bl; have c35b1 : (ai != 0) = false := bne_eq_false_iff_eq.mpr bl; clear bl; (first | rw [c35b0] | (simp only [i64_w, i32_w]; rw [c35b0]) | skip)
       by_cases bv : 0 ≤ ah
       ·rw [if_pos bv] at H
        have c36b0 := eq_true bv; have c36b1 : decide (0 ≤ ah) = true := decide_eq_true bv; clear bv
        by_cases bw : (ah : Int).toNat ≤ 35184372088832
        ·rw [if_pos bw] at H
         have c37b0 := eq_true bw; have c37b1 : decide ((ah : Int).toNat ≤ 35184372088832) = true := decide_eq_true bw; clear bw; obtain ⟨g3, cj⟩ : ∃ y_ : List Int, y_ = (List.replicate (ah : Int).toNat 0) := ⟨_, rfl⟩
         replace H : (hist_Sum.j0 k a1 a2 g3 ai al ah aj ac) = some (r1, r2, r3, r4, r5) := by first | (rw [cj]; with_reducible exact H) | (have b0 := (Option.bind_some _ _).symm.trans H; rw [cj]; with_reducible exact b0) | (have b0 := (Option.bind_some _ _).symm.trans H; with_reducible exact b0) | with_reducible exact H | (rw [cj]; exact H) | exact H
         have g4 := aaM cj; clear cj; have H' := aaM H; clear H; have := bc.out; have := bd.out; obtain ⟨fv, fw, fx, fy, fz, f3, f4, f5, f6, f7⟩ := bE5 aa.out
         go_wp2_with (first | ((with_reducible refine gate_dst (N := 42) rfl ?_); refine Kd.R_make (Kd.int .i64) _ 2 rfl (N := 42) rfl 22 _ _ rfl ah rfl rfl Try.underlying22 (.int .i64 0) 8 info2 rfl (by decide) (by omega) 0 (ok := fun _ => True) (okp := fun _ => True) rfl (fun _ hk => hk) trivial (of_decide_eq_true (by first | (with_reducible assumption) | assumption)) (Nat.le_trans (Nat.mul_le_mul_right _ (of_decide_eq_true (by first | (with_reducible assumption) | assumption) : ah.toNat ≤ 35184372088832)) (by omega)) (Below.refl _ _) (Nat.le_refl _) ?_; intro i9 ja ck hb hg_ hnew_; clear hg_ hnew_; (first | rw [← g4.out] at ck | (simp only [Int.reduceToNat] at ck; rw [← g4.out] at ck)); have ii := aaM (Kd.R_lower ck (lZ (lB HB))); replace aa := bY hb aa; replace ab := bY hb ab; replace HB := aaM (lP (lB HB) hb); clear hb ck))
         go_meet
         case rel => exact ⟨_, (g3), H', ⟨by first | omega | exact Nat.le_refl _⟩, ⟨rZ ii⟩, ⟨bZ aa⟩, ⟨bZ ab⟩, ⟨lB HB⟩⟩
        ·rw [if_neg bw] at H
         exact absurd H (by simp)
       ·rw [if_neg bv] at H
        exact absurd H (by simp)
      ·rw [if_neg bl] at H
       have c35b0 : (ai == 0) = false := beq_eq_false_iff_ne.mpr bl; have c35b1 : (ai != 0) = true := bne_iff_ne.mpr bl; (first | rw [c35b0] | (simp only [i64_w, i32_w]; rw [c35b0]) | skip); have H' := aaM H; clear H; go_wp2
       go_meet
       case rel => exact ⟨_, (([] : List Int)), H', ⟨by first | omega | exact Nat.le_refl _⟩, ⟨by first | exact Kd.R_nil _ _ _ _ _ | exact Kd.N_nil _ _ _ _ _ | exact Kd.V_nil _ _ _ _ _ | exact Kd.Q_nil _ _ _ _ _ | exact Kd.S_nil _ _ _ _ _⟩, ⟨bZ aa⟩, ⟨bZ ab⟩, ⟨lB HB⟩⟩
     case rest =>
      clear e9; (try clear c5); (try clear c6); (try clear c6b0); (try clear bs); (try clear c13b0); (try clear bt); (try clear c20b0); (try clear fa); (try clear fb); (try clear fc); (try clear fd); (try clear fe); (try clear fk); (try clear fl); (try clear fm); (try clear fo); (try clear fp); (try clear ff); (try clear fg); (try clear fh); (try clear fi); (try clear fj); (try clear fq); (try clear fr); (try clear fs); (try clear ft); (try clear fu); obtain ⟨kq, da, HA, ca, ag, aa, ab, HB⟩ := hcut
      cases kq with
      | zero => exact absurd HA.out (by simp [hist_Sum.j0])
      | succ hc =>
       have H := HA.out; clear HA; simp only [hist_Sum.j0] at H; have H' := aaM H; clear H
       go_wp2_with (first | ((with_reducible refine gate_dst (N := 10) rfl ?_); refine bxF w HB 10 #[.int .i64 0, .int .i64 0, .int .i64 0] 54 ?_; intro az hg jb hb ae HB ij; have jc := ij; replace ag := aaM (rrB (rZ ag) hb); obtain ⟨cl, he⟩ := nS hg aa; replace aa := bY hb aa; obtain ⟨bu, cb⟩ := nS hg ab; replace ab := bY hb ab; clear hb hg))
       go_loopg [11] hc (fun kq ik w' => ∃ (bh : List Int) (af : Int) (f8 : Int) (f9 : Int) (ga : Int) (ax : Int) (av : Int) (au : Int), ik = .int .i64 af ∧ Aside0 (hist_Sum.l0 kq a2 bh af ai al ah aj ac ax av au = some (r1, r2, r3, r4, r5)) ∧ Aside0 (kq ≤ hc) ∧ Aside0 (Kd.R (Kd.int .i64) 2 w' w.heap.size (fun _ => True) u9 bh) ∧ Aside0 (w'.heap[ao]? = some (.cells #[.int .i64 ai, .int .i64 al, .int .i64 ah, (.slice a7 aj.length a5), (.slice bb ac.length a6)] 25 (0, 0))) ∧ Aside0 (w'.heap[ay]? = some (.cells #[.int .i64 f8, .int .i64 f9, .int .i64 ga] 54 (0, 0))) ∧ Aside0 (w'.heap[az]? = some (.cells #[.int .i64 ax, .int .i64 av, .int .i64 au] 54 (0, 0))) ∧ Aside0 (Below w.heap.size w w'))
       case atStart => exact ⟨(da), (a1), (0), (0), (0), (0), (0), (0), (eF), H', ⟨Nat.le_refl _⟩, ⟨rZ ag⟩, ⟨bZ aa⟩, ⟨bZ ab⟩, ⟨bZ ae⟩, ⟨lB HB⟩⟩
       case round =>
        clear H'; (try clear c5); (try clear c6); (try clear c6b0); (try clear bs); (try clear c13b0); (try clear bt); (try clear c20b0); (try clear fa); (try clear fb); (try clear fc); (try clear fd); (try clear fe); (try clear fk); (try clear fl); (try clear fm); (try clear fo); (try clear fp); (try clear ff); (try clear fg); (try clear fh); (try clear fi); (try clear fj); (try clear fq); (try clear fr); (try clear fs); (try clear ft); (try clear fu); obtain ⟨bh, af, f8, f9, ga, ax, av, au, rfl, HA, cc, ag, aa, ab, ae, HB⟩ := hrel
        cases gk with
        | zero => exact absurd HA.out (by simp [hist_Sum.l0])
        | succ k2 =>
         have H := HA.out; clear HA; simp only [hist_Sum.l0] at H
         by_cases b1 : af < a2
         ·rw [if_pos b1] at H
          have c43b0 : decide (af < a2) = true := decide_eq_true b1; clear b1; have H' := aaM H; clear H; obtain ⟨gd, db, il⟩ := Kd.R_slice ag.out; subst il; go_wp2
          go_loopg [51] k2 (fun kq im w' => ∃ (a0 : List Int) (an : Int) (b2 : Int) (b3 : Int) (b4 : Int), im = .int .i64 an ∧ Aside0 (hist_Sum.l1 kq a2 a0 af (bh.length : Int) an ai al ah aj ac ax av au = some (r1, r2, r3, r4, r5)) ∧ Aside0 (kq ≤ k2) ∧ Aside0 (Kd.R (Kd.int .i64) 2 w' w.heap.size (fun _ => True) (.slice gd bh.length db) a0) ∧ Aside0 (w'.heap[ao]? = some (.cells #[.int .i64 ai, .int .i64 al, .int .i64 ah, (.slice a7 aj.length a5), (.slice bb ac.length a6)] 25 (0, 0))) ∧ Aside0 (w'.heap[ay]? = some (.cells #[.int .i64 b2, .int .i64 b3, .int .i64 b4] 54 (0, 0))) ∧ Aside0 (w'.heap[az]? = some (.cells #[.int .i64 ax, .int .i64 av, .int .i64 au] 54 (0, 0))) ∧ Aside0 (Below w.heap.size w w'))
          case atStart => exact ⟨(bh), (0), (f8), (f9), (ga), (eF), H', ⟨Nat.le_refl _⟩, ⟨rZ ag⟩, ⟨bZ aa⟩, ⟨bZ ab⟩, ⟨bZ ae⟩, ⟨lB HB⟩⟩
          case round =>
           clear H'; (try clear c5); (try clear c6); (try clear c6b0); (try clear bs); (try clear c13b0); (try clear bt); (try clear c20b0); (try clear b1); (try clear c43b0); (try clear fa); (try clear fb); (try clear fc); (try clear fd); (try clear fe); (try clear fk); (try clear fl); (try clear fm); (try clear fo); (try clear fp); (try clear ff); (try clear fg); (try clear fh); (try clear fi); (try clear fj); (try clear fq); (try clear fr); (try clear fs); (try clear ft); (try clear fu); obtain ⟨a0, an, b2, b3, b4, rfl, HA, cd, ag, aa, ab, ae, HB⟩ := hrel; have a3 := (Kd.R_reads' ag.out).1; rw [a3] at ag; (try simp only [a3]); (try simp only [a3] at aa); (try simp only [a3] at ab); (try simp only [a3] at ae)
           cases gk with
           | zero => exact absurd HA.out (by simp [hist_Sum.l1])
           | succ k3 =>
            have H := HA.out; clear HA; simp only [hist_Sum.l1] at H
            by_cases ce : an < (bh.length : Int)
            ·rw [if_pos ce] at H
             have c45b0 : decide (an < (bh.length : Int)) = true := decide_eq_true ce; (try have c45b0z : decide (an < (a0.length : Int)) = true := by rw [← a3]; exact c45b0); clear ce
             by_cases dc : 0 ≤ an
             ·rw [if_pos dc] at H
              have c46b0 : decide (0 ≤ an) = true := decide_eq_true dc; clear dc
              by_cases dd : an < (a0.length : Int)
              ·rw [if_pos dd] at H
               have c47b0 : decide (an < (a0.length : Int)) = true := decide_eq_true dd; (try have c47b0z : decide (an < (jd.length : Int)) = true := by rw [← je]; exact c47b0); clear dd; obtain ⟨be, cm⟩ : ∃ j_ : Int, (wrap64 ((wrap64 (af * ah)) + an)) = j_ := ⟨_, rfl⟩
               replace H : (if 0 ≤ (be) then (if (be) < (aj.length : Int) then ((prod_Plus.f (rd a0 an) (rd aj (be))).bind fun gf => (if gf.2 = 0 then (hist_Sum.l1 k3 a2 (a0.set (an : Int).toNat gf.1) af (bh.length : Int) (wrap64 (an + 1)) ai al ah aj ac ax av au) else (some (([] : List Int), 0, 0, 0, gf.2)))) else (none)) else (none)) = some (r1, r2, r3, r4, r5) := by first | (rw [cm] at H; exact H) | (simp only [cm] at H ⊢; exact H)
               have jf : (IntKind.i64.wrap ((wrap64 (af * ah)) + an)) = be := (i64_w _).trans cm
               by_cases de : 0 ≤ (be)
               ·rw [if_pos de] at H
                have c49b0 : decide (0 ≤ (be)) = true := decide_eq_true de; clear de
                by_cases df : (be) < (aj.length : Int)
                ·rw [if_pos df] at H
                 have c50b0 : decide ((be) < (aj.length : Int)) = true := decide_eq_true df; clear df; replace H := ooB.mp H; obtain ⟨⟨cn, bz⟩, hf, H⟩ := H; (try dsimp only at H); have io := aaM hf; clear hf; (try go_wp2); replace ag := aaM (rrD ag.out); replace aa := aaM (bD aa.out); replace ab := aaM (bD ab.out); replace ae := aaM (bD ae.out); replace HB := aaM (lD HB.out); have gg : 0 ≤ (an : Int) := of_decide_eq_true (by first | (with_reducible assumption) | assumption); have gh : an < (a0.length : Int) := of_decide_eq_true (by first | (with_reducible assumption) | assumption); obtain ⟨ip, iq, gi⟩ := Kd.at_int (Kd.R_reads' ag.out).2.2 an gg gh
                 cases iq
                 replace gg := eq_true gg; replace gh := eq_true gh; have gj : 0 ≤ ((be) : Int) := of_decide_eq_true (by first | (with_reducible assumption) | assumption); have gl : (be) < (aj.length : Int) := of_decide_eq_true (by first | (with_reducible assumption) | assumption); obtain ⟨hh, ir, cp⟩ := Kd.at_int b8.out (be) gj gl; have dg := cp
                 cases ir
                 replace cp := (HB.out.cell (World.block_lt_of_cell? w _ cp)).trans cp; replace gj := eq_true gj; replace gl := eq_true gl; refine start_ (n := 20) (S := fun w' => w'.cell? ⟨ao, 0, none⟩ = some (.int .i64 ai) ∧ w'.cell? ⟨ao, 1, none⟩ = some (.int .i64 al) ∧ w'.cell? ⟨ao, 2, none⟩ = some (.int .i64 ah) ∧ w'.cell? ⟨ao, 3, none⟩ = some (.slice (some hh) aj.length a5) ∧ w'.cell? ⟨ao, 4, none⟩ = some (.slice bb ac.length a6) ∧ w'.cell? (ip.add (an).toNat) = some (.int .i64 (rd a0 an)) ∧ w'.cell? (hh.add ((be)).toNat) = some (.int .i64 (rd aj (be)))) (ds := []) #[false, false, false, false, false, false, false, false, false, false, false, false, false, false, false, false, false, false, false, false] (by kernel_rfl) rfl rfl ⟨(bC aa.out 0).trans rfl, (bC aa.out 1).trans rfl, (bC aa.out 2).trans rfl, (bC aa.out 3).trans rfl, (bC aa.out 4).trans rfl, gi, ((HB.out.cell (World.block_lt_of_cell? w _ dg)).trans dg)⟩ (fun hHeld => ?_); refine with_tabW hist_Sum.tab15 hist_Sum.bits15 (fun HT_ HW_ => ?_); generalize wr.drew = cf at ag aa ab ae HB gi cp hHeld ⊢; refine pU 0 55 (qB 20 1) HT_ ?_
                 refine pU 1 56 (qB 20 3) HT_ ?_
                 refine pU 2 57 (qB 20 7) HT_ ?_
                 refine pU 4 59 (qB 20 23) HT_ ?_
                 refine pU 6 61 (qB 20 87) HT_ ?_
                 refine pU 7 62 (qB 20 215) HT_ ?_
                 refine pU 10 65 (qB 20 1239) HT_ ?_
                 refine tU 3 58 (qB 20 1247) HT_ HW_ hHeld ?_
                 refine tU 5 60 (qB 20 1279) HT_ HW_ hHeld ?_
                 refine tU 8 63 (qB 20 1535) HT_ HW_ hHeld ?_
                 refine pU 9 64 (qB 20 2047) HT_ ?_
                 refine pU 11 66 (qB 20 4095) HT_ ?_
                 refine pU 12 67 (qB 20 8191) HT_ ?_
                 refine tU 13 68 (qB 20 16383) HT_ HW_ hHeld ?_
                 refine oU 14 (some 69) (qB 20 32767) HT_ (fun K hK => ?_); refine goes_ Try.func48 (by kernel_rfl) rfl #[.int .i64 (rd a0 an), .int .i64 (rd aj (be))] (by rfl) rfl rfl (by (try simp only [mmT, mmC, mmN]); first | done | (simp only [cm]; rfl) | rfl | (simp only [ddD, ddT]; rfl)) ?_; (with_reducible refine (prod_Plus.calls (rd a0 an) (rd aj (be)) cn bz _ io.out).mono ?_); rintro e w' ⟨rfl, ⟨nd, rfl⟩⟩; refine ⟨_, rfl, ?_⟩; refine hK.out _ _ ⟨(bC aa.out 0).trans rfl, (bC aa.out 1).trans rfl, (bC aa.out 2).trans rfl, (bC aa.out 3).trans rfl, (bC aa.out 4).trans rfl, hHeld.2.2.2.2.2.1, ((HB.out.cell (World.block_lt_of_cell? w _ dg)).trans dg)⟩ (fun hHeld => ?_); clear hK K; refine nU 69 ?_
                 refine pU 15 54 (qB 20 65535) HT_ ?_
                 refine pU 16 70 (qB 20 131071) HT_ ?_
                 refine pU 17 71 (qB 20 262143) HT_ ?_
                 refine pU 18 13 (qB 20 524287) HT_ ?_
                 refine pU 19 14 (qB 20 1048575) HT_ ?_
                 refine done_ (done_of HT_.out (by kernel_rfl)) ?_
                 by_cases b5 : bz = 0
                 ·rw [if_pos b5] at H
                  have c52b0 : (bz == 0) = true := beq_iff_eq.mpr b5; have c52b1 : (bz != 0) = false := bne_eq_false_iff_eq.mpr b5; clear b5; obtain ⟨gm, cq⟩ : ∃ y_ : List Int, y_ = (a0.set (an : Int).toNat cn) := ⟨_, rfl⟩
                  replace H : (hist_Sum.l1 k3 a2 gm af (bh.length : Int) (wrap64 (an + 1)) ai al ah aj ac ax av au) = some (r1, r2, r3, r4, r5) := by first | (rw [cq]; with_reducible exact H) | (have b0 := (Option.bind_some _ _).symm.trans H; rw [cq]; with_reducible exact b0) | (have b0 := (Option.bind_some _ _).symm.trans H; with_reducible exact b0) | with_reducible exact H | (rw [cq]; exact H) | exact H
                  have it := aaM cq; clear cq; have H' := aaM H; clear H; have cr := aaM (rrN ag.out nd); have ct := aaM (bN aa.out nd); have cu := aaM (bN ab.out nd); have cv := aaM (bN ae.out nd); have cw := aaM (lN HB.out nd); clear ag aa ab ae HB; have ag := cr; have aa := ct; have ab := cu; have ae := cv; have HB := cw; clear cr ct cu cv cw; generalize World.drewN cf nd = cf at ag aa ab ae HB ⊢; have gn : 0 ≤ (an : Int) := of_decide_eq_true (by first | (with_reducible assumption) | assumption); have gp : (an : Int) < ((a0.length : Int) : Int) := of_decide_eq_true (by first | (with_reducible assumption) | assumption); obtain ⟨gq, jg, hj, hl, iu, jh, hm⟩ := Kd.R_form ag.out (by omega); (first | cases hj | (injection hj with ea_ en_ ec_; (first | subst ea_ | (injection ea_ with ea_; subst ea_)); subst ec_; clear en_)); have iv := aaM hl; have ji := aaM hm; clear hl iu hm; (first | simp only [add_plain] at gi | skip); obtain ⟨jj, jk⟩ := Kd.R_celln 0 ag.out (an : Int) gn gp; replace gn := eq_true gn; replace gp := eq_true gp; obtain ⟨jl, jm⟩ := Kd.R_celln 0 ag.out (an : Int) (of_decide_eq_true (by first | (with_reducible assumption) | assumption)) (of_decide_eq_true (by first | (with_reducible assumption) | assumption)); have gr := Kd.R_putg ag.out (an : Int) cn; (try go_wp2_with (first | ((with_reducible refine gate_store (t := 2) (p := 79) rfl ?_); refine store_event (t := 2) (p := 79) (v := ?vo_w56) (w1 := (cf.setCell ⟨gq, (an : Int).toNat, none⟩ (.int .i64 cn))) ?hg ?ho ?hn ?hr ?_; (case ho => rfl); (case hg => rfl); (case hn => rfl); (case hr => first | (go_simp; done) | (go_simp; rfl)); intro gt hw; have hg : cf.grownBy gt (some gq) := (by rw [hw]; exact gr.2); have hp_ : Kd.R (Kd.int .i64) 2 gt w.heap.size (fun _ => True) (.slice (some ⟨gq, 0, none⟩) a0.length db) gm := (by rw [hw, it.out]; exact gr.1); clear gr; replace aa := aaM (blk_grown (g := ao) (bZ aa) hg (Kd.R_ne ag.out aa.out (by decide))); replace ab := aaM (blk_grown (g := ay) (bZ ab) hg (Kd.R_ne ag.out ab.out (by decide))); replace ae := aaM (blk_grown (g := az) (bZ ae) hg (Kd.R_ne ag.out ae.out (by decide))); replace ag := aaM (hp_); replace HB := aaM ((by rw [hw]; exact lS (HB.out) iv.out : Below w.heap.size w gt)); clear hg hw hp_))); (try simp only [← a3])
                  go_roundg k3
                  case measure => have := ca.out; have := cc.out; have := cd.out; omega
                  case rel => exact ⟨(gm), (wrap64 (an + 1)), (b2), (b3), (b4), (eF), H', ⟨by have := ca.out; have := cc.out; have := cd.out; omega⟩, ⟨by (try simp only [a3]); (with_reducible repeat (first | apply rrA | apply rrN | apply rrD)); exact ag.out⟩, ⟨by (try simp only [a3]); (with_reducible repeat (first | refine bN ?_ _ | refine bD ?_ | refine bA ?_ _)); exact aa.out⟩, ⟨by (try simp only [a3]); (with_reducible repeat (first | refine bN ?_ _ | refine bD ?_ | refine bA ?_ _)); exact ab.out⟩, ⟨by (try simp only [a3]); (with_reducible repeat (first | refine bN ?_ _ | refine bD ?_ | refine bA ?_ _)); exact ae.out⟩, ⟨lB HB⟩⟩
                 ·rw [if_neg b5] at H
                  have c52b0 : (bz == 0) = false := beq_eq_false_iff_ne.mpr b5; have c52b1 : (bz != 0) = true := bne_iff_ne.mpr b5; simp only [Option.some.injEq, Prod.mk.injEq] at H; obtain ⟨rfl, rfl, rfl, rfl, rfl⟩ := H; have cr := aaM (rrN ag.out nd); have ct := aaM (bN aa.out nd); have cu := aaM (bN ab.out nd); have cv := aaM (bN ae.out nd); have cw := aaM (lN HB.out nd); clear ag aa ab ae HB; have ag := cr; have aa := ct; have ab := cu; have ae := cv; have HB := cw; clear cr ct cu cv cw; generalize World.drewN cf nd = cf at ag aa ab ae HB ⊢; have := bd.out; have := bc.out; have := bu.out; have := cb.out; obtain ⟨_, _, _, _, _, _⟩ := bE3 ab.out; (try go_wp2); refine bodyPost_ret (results_list (rs := [.tmp 6, .cell 7 54, .tmp 8]) rfl (by simp) (.tmp (.cell ay 54 #[.int .i64 0, .int .i64 0, .int .i64 0] (0, 0) _ rfl (bZ ab) Try.underlying54 rfl (by kernel_rfl) (.tmp .nil)))) rfl ?_
                  exact ⟨_, by first | rfl | (simp [errW_none, errW_some] <;> rfl) | (simp only [← cm]; first | rfl | (simp [errW_none, errW_some] <;> rfl)) | (simp [*, errW_none, errW_some] <;> rfl), by first | exact Kd.R_nil _ _ _ _ _ | exact Kd.N_nil _ _ _ _ _ | exact Kd.V_nil _ _ _ _ _ | exact Kd.Q_nil _ _ _ _ _ | exact Kd.S_nil _ _ _ _ _, lB HB⟩
                ·rw [if_neg df] at H
                 exact absurd H (by simp)
               ·rw [if_neg de] at H
                exact absurd H (by simp)
              ·rw [if_neg dd] at H
               exact absurd H (by simp)
             ·rw [if_neg dc] at H
              exact absurd H (by simp)
            ·rw [if_neg ce] at H
             have c45b0 : decide (an < (bh.length : Int)) = false := decide_eq_false ce; (try have c45b0z : decide (an < (a0.length : Int)) = false := by rw [← a3]; exact c45b0); clear ce
             by_cases b6 : ai = 1
             ·rw [if_pos b6] at H
              have c61b0 : (ai == 1) = true := beq_iff_eq.mpr b6; have c61b1 : (ai != 1) = false := bne_eq_false_iff_eq.mpr b6; clear b6
              by_cases dh : 0 ≤ af
              ·rw [if_pos dh] at H
               have c62b0 : decide (0 ≤ af) = true := decide_eq_true dh; clear dh
               by_cases di : af < (ac.length : Int)
               ·rw [if_pos di] at H
                have c63b0 : decide (af < (ac.length : Int)) = true := decide_eq_true di; clear di; replace H := ooB.mp H; obtain ⟨⟨bi, bj, bm, bg⟩, hq, H⟩ := H; (try dsimp only at H); have gu := aaM hq; clear hq; have := bc.out; have := bd.out; have := cl.out; have := he.out; obtain ⟨_, _, _, _, _, _, _, _, _, _⟩ := bE5 aa.out; (try go_wp2); replace ag := aaM (rrD ag.out); replace aa := aaM (bD aa.out); replace ab := aaM (bD ab.out); replace ae := aaM (bD ae.out); replace HB := aaM (lD HB.out); have gv : 0 ≤ (af : Int) := of_decide_eq_true (by first | (with_reducible assumption) | assumption); have gw : af < (ac.length : Int) := of_decide_eq_true (by first | (with_reducible assumption) | assumption); obtain ⟨a8, iw, cx, cy, cz⟩ := at_T54 b9.out af gv gw; have ap := cz; have aq := cy; have ar := cx
                cases iw
                replace cx := (HB.out.cell (World.block_lt_of_cell? w _ cx)).trans cx; replace cy := (HB.out.cell (World.block_lt_of_cell? w _ cy)).trans cy; replace cz := (HB.out.cell (World.block_lt_of_cell? w _ cz)).trans cz; replace gv := eq_true gv; replace gw := eq_true gw; refine start_ (n := 14) (S := fun w' => w'.cell? ⟨az, 0, none⟩ = some (.int .i64 ax) ∧ w'.cell? ⟨az, 1, none⟩ = some (.int .i64 av) ∧ w'.cell? ⟨az, 2, none⟩ = some (.int .i64 au) ∧ w'.cell? ⟨ao, 0, none⟩ = some (.int .i64 ai) ∧ w'.cell? ⟨ao, 1, none⟩ = some (.int .i64 al) ∧ w'.cell? ⟨ao, 2, none⟩ = some (.int .i64 ah) ∧ w'.cell? ⟨ao, 3, none⟩ = some (.slice a7 aj.length a5) ∧ w'.cell? ⟨ao, 4, none⟩ = some (.slice (some a8) ac.length a6) ∧ w'.cell? (a8.add ((af).toNat * 3)) = some (.int .i64 ((rd_T54 ac af).f0)) ∧ w'.cell? ⟨(a8.add ((af).toNat * 3)).block, (a8.add ((af).toNat * 3)).off + 1, none⟩ = some (.int .i64 ((rd_T54 ac af).f1)) ∧ w'.cell? ⟨(a8.add ((af).toNat * 3)).block, (a8.add ((af).toNat * 3)).off + 2, none⟩ = some (.int .i64 ((rd_T54 ac af).f2))) (ds := []) #[false, false, false, false, false, false, false, false, false, false, false, false, false, false] (by kernel_rfl) rfl rfl ⟨(bC ae.out 0).trans rfl, (bC ae.out 1).trans rfl, (bC ae.out 2).trans rfl, (bC aa.out 0).trans rfl, (bC aa.out 1).trans rfl, (bC aa.out 2).trans rfl, (bC aa.out 3).trans rfl, (bC aa.out 4).trans rfl, ((HB.out.cell (World.block_lt_of_cell? w _ ar)).trans ar), ((HB.out.cell (World.block_lt_of_cell? w _ aq)).trans aq), ((HB.out.cell (World.block_lt_of_cell? w _ ap)).trans ap)⟩ (fun hHeld => ?_); refine with_tabW hist_Sum.tab21 hist_Sum.bits21 (fun HT_ HW_ => ?_); generalize wr.drew = jn at ag aa ab ae HB cx cy cz hHeld ⊢; refine pU 2 87 (qB 14 4) HT_ ?_
                refine pU 4 89 (qB 14 20) HT_ ?_
                refine tU 1 86 (qB 14 22) HT_ HW_ hHeld ?_
                refine tU 3 88 (qB 14 30) HT_ HW_ hHeld ?_
                refine pU 5 90 (qB 14 62) HT_ ?_
                refine tU 6 91 (qB 14 126) HT_ HW_ hHeld ?_
                refine join_ (σ := Nat × Nat) 2 (qB 14 4095) (fun s_ => [(85, .func (.func 61) #[] #[.pointer (some ⟨s_.2, 0, none⟩)]), (92, .tuple #[.agg #[.int .i64 bi, .int .i64 bj, .int .i64 bm], .int .i64 bg]), (15, .pointer (some ⟨s_.1, 0, none⟩)), (84, .tuple #[.agg #[.int .i64 bi, .int .i64 bj, .int .i64 bm], .int .i64 bg]), (93, .agg #[.int .i64 bi, .int .i64 bj, .int .i64 bm]), (94, .int .i64 bg)]) (fun s_ w' => (w'.cell? ⟨az, 0, none⟩ = some (.int .i64 ax) ∧ w'.cell? ⟨az, 1, none⟩ = some (.int .i64 av) ∧ w'.cell? ⟨az, 2, none⟩ = some (.int .i64 au) ∧ w'.cell? ⟨ao, 0, none⟩ = some (.int .i64 ai) ∧ w'.cell? ⟨ao, 1, none⟩ = some (.int .i64 al) ∧ w'.cell? ⟨ao, 2, none⟩ = some (.int .i64 ah) ∧ w'.cell? ⟨ao, 3, none⟩ = some (.slice a7 aj.length a5) ∧ w'.cell? ⟨ao, 4, none⟩ = some (.slice (some a8) ac.length a6) ∧ w'.cell? (a8.add ((af).toNat * 3)) = some (.int .i64 ((rd_T54 ac af).f0)) ∧ w'.cell? ⟨(a8.add ((af).toNat * 3)).block, (a8.add ((af).toNat * 3)).off + 1, none⟩ = some (.int .i64 ((rd_T54 ac af).f1)) ∧ w'.cell? ⟨(a8.add ((af).toNat * 3)).block, (a8.add ((af).toNat * 3)).off + 2, none⟩ = some (.int .i64 ((rd_T54 ac af).f2))) ∧ (Kd.R (Kd.int .i64) 2 w' w.heap.size (fun _ => True) (.slice gd a0.length db) a0) ∧ (w'.heap[ao]? = some (.cells #[.int .i64 ai, .int .i64 al, .int .i64 ah, .slice a7 aj.length a5, .slice (some a8) ac.length a6] 25 (0, 0))) ∧ (w'.heap[ay]? = some (.cells #[.int .i64 b2, .int .i64 b3, .int .i64 b4] 54 (0, 0))) ∧ (w'.heap[az]? = some (.cells #[.int .i64 ax, .int .i64 av, .int .i64 au] 54 (0, 0))) ∧ (w'.heap[s_.1]? = some (.cells #[.int .i64 0, .int .i64 0, .int .i64 0] 54 (0, 0))) ∧ (w.heap.size ≤ s_.1) ∧ (w.heap.size ≤ s_.1) ∧ (ao ≠ s_.1) ∧ (s_.1 ≠ ao) ∧ (ay ≠ s_.1) ∧ (s_.1 ≠ ay) ∧ (az ≠ s_.1) ∧ (s_.1 ≠ az) ∧ (Below w.heap.size w w')) ?_ ?_; rotate_left
                ·intro hCont
                 refine two_ (i := 0) (j := 11) (Ni := some 85) (Nj := some 15) (qB 14 127) (qB 14 2174) rfl rfl rfl rfl (two_of HT_.out (by kernel_rfl)) (by decide) (by decide) (fun K hK => ?_) (fun K hK => ?_)
                 ·skip
                  refine goes_ Try.func49 (by kernel_rfl) rfl #[.func (.func 50) #[] #[]] (by rfl) rfl rfl (by first | rfl | simp [Act.eval]) ?_; (with_reducible refine (hist_moments.calls _).mono ?_); rintro e jo ⟨gc, rfl, hgc_, hb⟩; have hgc := aaM hgc_; clear hgc_; refine ⟨_, rfl, ?_⟩; replace ag := aaM (rrB (rZ ag) hb); replace aa := bY hb aa; replace ab := bY hb ab; replace ae := bY hb ae; replace HB := aaM (lP (lB HB) hb); (try clear hb); refine hK.out _ _ ⟨(bC ae.out 0).trans rfl, (bC ae.out 1).trans rfl, (bC ae.out 2).trans rfl, (bC aa.out 0).trans rfl, (bC aa.out 1).trans rfl, (bC aa.out 2).trans rfl, (bC aa.out 3).trans rfl, (bC aa.out 4).trans rfl, ((HB.out.cell (World.block_lt_of_cell? w _ ar)).trans ar), ((HB.out.cell (World.block_lt_of_cell? w _ aq)).trans aq), ((HB.out.cell (World.block_lt_of_cell? w _ ap)).trans ap)⟩ (fun hHeld => ?_); clear hK K; refine nU 85 ?_
                  refine two_ (i := 7) (j := 11) (Ni := some 92) (Nj := some 15) (qB 14 255) (qB 14 2175) rfl rfl rfl rfl (two_of HT_.out (by kernel_rfl)) (by decide) (by decide) (fun K hK => ?_) (fun K hK => ?_)
                  ·skip
                   refine goesC_ Try.func61 (by kernel_rfl) rfl #[.agg #[.int .i64 ax, .int .i64 av, .int .i64 au], .agg #[.int .i64 ((rd_T54 ac af).f0), .int .i64 ((rd_T54 ac af).f1), .int .i64 ((rd_T54 ac af).f2)]] #[.pointer (some ⟨gc, 0, none⟩)] #[.agg #[.int .i64 ax, .int .i64 av, .int .i64 au], .agg #[.int .i64 ((rd_T54 ac af).f0), .int .i64 ((rd_T54 ac af).f1), .int .i64 ((rd_T54 ac af).f2)], .pointer (some ⟨gc, 0, none⟩)] rfl (by rfl) rfl rfl rfl mG ?_; (with_reducible refine (hist_moments_1.calls ax av au ((rd_T54 ac af).f0) ((rd_T54 ac af).f1) ((rd_T54 ac af).f2) bi bj bm bg gc _ hgc.out gu.out).mono ?_); rintro e hs ⟨rfl, hb⟩; refine ⟨_, rfl, ?_⟩; replace ag := aaM (rrB (rZ ag) hb); replace aa := bY hb aa; replace ab := bY hb ab; replace ae := bY hb ae; replace HB := aaM (lP (lB HB) hb); (try clear hb); refine hK.out _ _ ⟨(bC ae.out 0).trans rfl, (bC ae.out 1).trans rfl, (bC ae.out 2).trans rfl, (bC aa.out 0).trans rfl, (bC aa.out 1).trans rfl, (bC aa.out 2).trans rfl, (bC aa.out 3).trans rfl, (bC aa.out 4).trans rfl, ((HB.out.cell (World.block_lt_of_cell? w _ ar)).trans ar), ((HB.out.cell (World.block_lt_of_cell? w _ aq)).trans aq), ((HB.out.cell (World.block_lt_of_cell? w _ ap)).trans ap)⟩ (fun hHeld => ?_); clear hK K; refine nU 92 ?_
                   refine pU 8 84 (qB 14 511) HT_ ?_
                   refine pU 9 93 (qB 14 1023) HT_ ?_
                   refine pU 10 94 (qB 14 2047) HT_ ?_
                   refine oU 11 (some 15) (qB 14 4095) HT_ (fun K hK => ?_); refine box_step ?hg (N := 15) ?hd (cs := #[.int .i64 0, .int .i64 0, .int .i64 0]) (t := 54) ?hr ?_; (case hd => rfl); (case hg => rfl); (case hr => first | (go_simp; done) | (go_simp; rfl)); intro ak hg ht hbox hb; have hP_ := lQ (lB HB) hb; replace ag := aaM (rrB (rZ ag) hb); replace HB := aaM hP_.1; have a9 := aaM (hbox); have am := aaM (gQ hg hP_.2); have cg := aaM (gQ hg hP_.2); obtain ⟨aw, bn⟩ := nS hg aa; replace aa := bY hb aa; obtain ⟨bf, bk⟩ := nS hg ab; replace ab := bY hb ab; obtain ⟨a4, bo⟩ := nS hg ae; replace ae := bY hb ae; clear hb hbox hg hP_; refine hK.out _ _ ⟨(bC ae.out 0).trans rfl, (bC ae.out 1).trans rfl, (bC ae.out 2).trans rfl, (bC aa.out 0).trans rfl, (bC aa.out 1).trans rfl, (bC aa.out 2).trans rfl, (bC aa.out 3).trans rfl, (bC aa.out 4).trans rfl, ((HB.out.cell (World.block_lt_of_cell? w _ ar)).trans ar), ((HB.out.cell (World.block_lt_of_cell? w _ aq)).trans aq), ((HB.out.cell (World.block_lt_of_cell? w _ ap)).trans ap)⟩ (fun hHeld => ?_); clear hK K; refine nU 15 ?_
                   exact norm_ (by simp only [putAll, Act.put, ssB, ssZ, ssS]) (hCont (ak, gc) _ ⟨hHeld, (rZ ag), (bZ aa), (bZ ab), (bZ ae), (bZ a9), am.out, cg.out, aw.out, bn.out, bf.out, bk.out, a4.out, bo.out, (lB HB)⟩)
                  ·skip
                   refine box_step ?hg (N := 15) ?hd (cs := #[.int .i64 0, .int .i64 0, .int .i64 0]) (t := 54) ?hr ?_; (case hd => rfl); (case hg => rfl); (case hr => first | (go_simp; done) | (go_simp; rfl)); intro ak hg hs hbox hb; have hgc := aaM ((hb.cell (World.block_lt_of_cell? _ _ hgc.out)).trans hgc.out); have hP_ := lQ (lB HB) hb; replace ag := aaM (rrB (rZ ag) hb); replace HB := aaM hP_.1; have a9 := aaM (hbox); have am := aaM (gQ hg hP_.2); have cg := aaM (gQ hg hP_.2); obtain ⟨aw, bn⟩ := nS hg aa; replace aa := bY hb aa; obtain ⟨bf, bk⟩ := nS hg ab; replace ab := bY hb ab; obtain ⟨a4, bo⟩ := nS hg ae; replace ae := bY hb ae; clear hb hbox hg hP_; refine hK.out _ _ ⟨(bC ae.out 0).trans rfl, (bC ae.out 1).trans rfl, (bC ae.out 2).trans rfl, (bC aa.out 0).trans rfl, (bC aa.out 1).trans rfl, (bC aa.out 2).trans rfl, (bC aa.out 3).trans rfl, (bC aa.out 4).trans rfl, ((HB.out.cell (World.block_lt_of_cell? w _ ar)).trans ar), ((HB.out.cell (World.block_lt_of_cell? w _ aq)).trans aq), ((HB.out.cell (World.block_lt_of_cell? w _ ap)).trans ap)⟩ (fun hHeld => ?_); clear hK K; refine nU 15 ?_
                   refine oU 7 (some 92) (qB 14 2303) HT_ (fun K hK => ?_); refine goesC_ Try.func61 (by kernel_rfl) rfl #[.agg #[.int .i64 ax, .int .i64 av, .int .i64 au], .agg #[.int .i64 ((rd_T54 ac af).f0), .int .i64 ((rd_T54 ac af).f1), .int .i64 ((rd_T54 ac af).f2)]] #[.pointer (some ⟨gc, 0, none⟩)] #[.agg #[.int .i64 ax, .int .i64 av, .int .i64 au], .agg #[.int .i64 ((rd_T54 ac af).f0), .int .i64 ((rd_T54 ac af).f1), .int .i64 ((rd_T54 ac af).f2)], .pointer (some ⟨gc, 0, none⟩)] rfl (by rfl) rfl rfl rfl mG ?_; (with_reducible refine (hist_moments_1.calls ax av au ((rd_T54 ac af).f0) ((rd_T54 ac af).f1) ((rd_T54 ac af).f2) bi bj bm bg gc _ hgc.out gu.out).mono ?_); rintro e ht ⟨rfl, hb⟩; refine ⟨_, rfl, ?_⟩; replace ag := aaM (rrB (rZ ag) hb); replace aa := bY hb aa; replace ab := bY hb ab; replace ae := bY hb ae; replace a9 := bY hb a9; replace HB := aaM (lP (lB HB) hb); (try clear hb); refine hK.out _ _ ⟨(bC ae.out 0).trans rfl, (bC ae.out 1).trans rfl, (bC ae.out 2).trans rfl, (bC aa.out 0).trans rfl, (bC aa.out 1).trans rfl, (bC aa.out 2).trans rfl, (bC aa.out 3).trans rfl, (bC aa.out 4).trans rfl, ((HB.out.cell (World.block_lt_of_cell? w _ ar)).trans ar), ((HB.out.cell (World.block_lt_of_cell? w _ aq)).trans aq), ((HB.out.cell (World.block_lt_of_cell? w _ ap)).trans ap)⟩ (fun hHeld => ?_); clear hK K; refine nU 92 ?_
                   refine pU 8 84 (qB 14 2559) HT_ ?_
                   refine pU 9 93 (qB 14 3071) HT_ ?_
                   refine pU 10 94 (qB 14 4095) HT_ ?_
                   exact norm_ (by simp only [putAll, Act.put, ssB, ssZ, ssS]) (hCont (ak, gc) _ ⟨hHeld, (rZ ag), (bZ aa), (bZ ab), (bZ ae), (bZ a9), am.out, cg.out, aw.out, bn.out, bf.out, bk.out, a4.out, bo.out, (lB HB)⟩)
                 ·skip
                  refine box_step ?hg (N := 15) ?hd (cs := #[.int .i64 0, .int .i64 0, .int .i64 0]) (t := 54) ?hr ?_; (case hd => rfl); (case hg => rfl); (case hr => first | (go_simp; done) | (go_simp; rfl)); intro ak hg hs hbox hb; have hP_ := lQ (lB HB) hb; replace ag := aaM (rrB (rZ ag) hb); replace HB := aaM hP_.1; have a9 := aaM (hbox); have am := aaM (gQ hg hP_.2); have cg := aaM (gQ hg hP_.2); obtain ⟨aw, bn⟩ := nS hg aa; replace aa := bY hb aa; obtain ⟨bf, bk⟩ := nS hg ab; replace ab := bY hb ab; obtain ⟨a4, bo⟩ := nS hg ae; replace ae := bY hb ae; clear hb hbox hg hP_; refine hK.out _ _ ⟨(bC ae.out 0).trans rfl, (bC ae.out 1).trans rfl, (bC ae.out 2).trans rfl, (bC aa.out 0).trans rfl, (bC aa.out 1).trans rfl, (bC aa.out 2).trans rfl, (bC aa.out 3).trans rfl, (bC aa.out 4).trans rfl, ((HB.out.cell (World.block_lt_of_cell? w _ ar)).trans ar), ((HB.out.cell (World.block_lt_of_cell? w _ aq)).trans aq), ((HB.out.cell (World.block_lt_of_cell? w _ ap)).trans ap)⟩ (fun hHeld => ?_); clear hK K; refine nU 15 ?_
                  refine oU 0 (some 85) (qB 14 2175) HT_ (fun K hK => ?_); refine goes_ Try.func49 (by kernel_rfl) rfl #[.func (.func 50) #[] #[]] (by rfl) rfl rfl (by first | rfl | simp [Act.eval]) ?_; (with_reducible refine (hist_moments.calls _).mono ?_); rintro e jp ⟨gc, rfl, hgc_, hb⟩; have hgc := aaM hgc_; clear hgc_; refine ⟨_, rfl, ?_⟩; replace ag := aaM (rrB (rZ ag) hb); replace aa := bY hb aa; replace ab := bY hb ab; replace ae := bY hb ae; replace a9 := bY hb a9; replace HB := aaM (lP (lB HB) hb); (try clear hb); refine hK.out _ _ ⟨(bC ae.out 0).trans rfl, (bC ae.out 1).trans rfl, (bC ae.out 2).trans rfl, (bC aa.out 0).trans rfl, (bC aa.out 1).trans rfl, (bC aa.out 2).trans rfl, (bC aa.out 3).trans rfl, (bC aa.out 4).trans rfl, ((HB.out.cell (World.block_lt_of_cell? w _ ar)).trans ar), ((HB.out.cell (World.block_lt_of_cell? w _ aq)).trans aq), ((HB.out.cell (World.block_lt_of_cell? w _ ap)).trans ap)⟩ (fun hHeld => ?_); clear hK K; refine nU 85 ?_
                  refine oU 7 (some 92) (qB 14 2303) HT_ (fun K hK => ?_); refine goesC_ Try.func61 (by kernel_rfl) rfl #[.agg #[.int .i64 ax, .int .i64 av, .int .i64 au], .agg #[.int .i64 ((rd_T54 ac af).f0), .int .i64 ((rd_T54 ac af).f1), .int .i64 ((rd_T54 ac af).f2)]] #[.pointer (some ⟨gc, 0, none⟩)] #[.agg #[.int .i64 ax, .int .i64 av, .int .i64 au], .agg #[.int .i64 ((rd_T54 ac af).f0), .int .i64 ((rd_T54 ac af).f1), .int .i64 ((rd_T54 ac af).f2)], .pointer (some ⟨gc, 0, none⟩)] rfl (by rfl) rfl rfl rfl mG ?_; (with_reducible refine (hist_moments_1.calls ax av au ((rd_T54 ac af).f0) ((rd_T54 ac af).f1) ((rd_T54 ac af).f2) bi bj bm bg gc _ hgc.out gu.out).mono ?_); rintro e ht ⟨rfl, hb⟩; refine ⟨_, rfl, ?_⟩; replace ag := aaM (rrB (rZ ag) hb); replace aa := bY hb aa; replace ab := bY hb ab; replace ae := bY hb ae; replace a9 := bY hb a9; replace HB := aaM (lP (lB HB) hb); (try clear hb); refine hK.out _ _ ⟨(bC ae.out 0).trans rfl, (bC ae.out 1).trans rfl, (bC ae.out 2).trans rfl, (bC aa.out 0).trans rfl, (bC aa.out 1).trans rfl, (bC aa.out 2).trans rfl, (bC aa.out 3).trans rfl, (bC aa.out 4).trans rfl, ((HB.out.cell (World.block_lt_of_cell? w _ ar)).trans ar), ((HB.out.cell (World.block_lt_of_cell? w _ aq)).trans aq), ((HB.out.cell (World.block_lt_of_cell? w _ ap)).trans ap)⟩ (fun hHeld => ?_); clear hK K; refine nU 92 ?_
                  refine pU 8 84 (qB 14 2559) HT_ ?_
                  refine pU 9 93 (qB 14 3071) HT_ ?_
                  refine pU 10 94 (qB 14 4095) HT_ ?_
                  exact norm_ (by simp only [putAll, Act.put, ssB, ssZ, ssS]) (hCont (ak, gc) _ ⟨hHeld, (rZ ag), (bZ aa), (bZ ab), (bZ ae), (bZ a9), am.out, cg.out, aw.out, bn.out, bf.out, bk.out, a4.out, bo.out, (lB HB)⟩)
                rintro ⟨ak, gc⟩ ba ⟨hS_, h0_, h1_, h2_, h3_, h4_, h5_, h6_, h7_, h8_, h9_, hu, hv, h0, h1⟩; have h2 : Aside0 (Kd.R (Kd.int .i64) 2 ba w.heap.size (fun _ => True) (.slice gd a0.length db) a0) := ⟨h0_⟩; have h3 : Aside0 (ba.heap[ao]? = some (.cells #[.int .i64 ai, .int .i64 al, .int .i64 ah, .slice a7 aj.length a5, .slice (some a8) ac.length a6] 25 (0, 0))) := ⟨h1_⟩; have h4 : Aside0 (ba.heap[ay]? = some (.cells #[.int .i64 b2, .int .i64 b3, .int .i64 b4] 54 (0, 0))) := ⟨h2_⟩; have h5 : Aside0 (ba.heap[az]? = some (.cells #[.int .i64 ax, .int .i64 av, .int .i64 au] 54 (0, 0))) := ⟨h3_⟩; have h6 : Aside0 (ba.heap[ak]? = some (.cells #[.int .i64 0, .int .i64 0, .int .i64 0] 54 (0, 0))) := ⟨h4_⟩; have h7 : Aside0 (w.heap.size ≤ ak) := ⟨h5_⟩; have h8 : Aside0 (w.heap.size ≤ ak) := ⟨h6_⟩; have h9 : Aside0 (ao ≠ ak) := ⟨h7_⟩; have ia : Aside0 (ak ≠ ao) := ⟨h8_⟩; have ib : Aside0 (ay ≠ ak) := ⟨h9_⟩; have ic : Aside0 (ak ≠ ay) := ⟨hu⟩; have ie : Aside0 (az ≠ ak) := ⟨hv⟩; have ig : Aside0 (ak ≠ az) := ⟨h0⟩; have ih : Aside0 (Below w.heap.size w ba) := ⟨h1⟩; clear ag aa ab ae HB h0_ h1_ h2_ h3_ h4_ h5_ h6_ h7_ h8_ h9_ hu hv h0 h1; have ag := h2; have aa := h3; have ab := h4; have ae := h5; have a9 := h6; have am := h7; have cg := h8; have aw := h9; have bn := ia; have bf := ib; have bk := ic; have a4 := ie; have bo := ig; have HB := ih; clear h2 h3 h4 h5 h6 h7 h8 h9 ia ib ic ie ig ih; have hHeld : ba.cell? ⟨az, 0, none⟩ = some (.int .i64 ax) ∧ ba.cell? ⟨az, 1, none⟩ = some (.int .i64 av) ∧ ba.cell? ⟨az, 2, none⟩ = some (.int .i64 au) ∧ ba.cell? ⟨ao, 0, none⟩ = some (.int .i64 ai) ∧ ba.cell? ⟨ao, 1, none⟩ = some (.int .i64 al) ∧ ba.cell? ⟨ao, 2, none⟩ = some (.int .i64 ah) ∧ ba.cell? ⟨ao, 3, none⟩ = some (.slice a7 aj.length a5) ∧ ba.cell? ⟨ao, 4, none⟩ = some (.slice (some a8) ac.length a6) ∧ ba.cell? (a8.add ((af).toNat * 3)) = some (.int .i64 ((rd_T54 ac af).f0)) ∧ ba.cell? ⟨(a8.add ((af).toNat * 3)).block, (a8.add ((af).toNat * 3)).off + 1, none⟩ = some (.int .i64 ((rd_T54 ac af).f1)) ∧ ba.cell? ⟨(a8.add ((af).toNat * 3)).block, (a8.add ((af).toNat * 3)).off + 2, none⟩ = some (.int .i64 ((rd_T54 ac af).f2)) := hS_; refine norm_ (a' := ?_) ?_ ?_; rotate_left
                ·simp only [putAll, Act.put, ssB, ssZ, ssS]
                 rfl
                refine oU 12 none (qB 14 8191) HT_ (fun K hK => ?_); obtain ⟨jq, -, -, jr, -, -⟩ := bE3 a9.out; have := aw.out; have := bf.out; have := a4.out; have := bn.out; have := bk.out; have := bo.out; obtain ⟨-, js, -, -, jt, -⟩ := bE3 a9.out; have := aw.out; have := bf.out; have := a4.out; have := bn.out; have := bk.out; have := bo.out; obtain ⟨-, -, ju, -, -, jv⟩ := bE3 a9.out; have := aw.out; have := bf.out; have := a4.out; have := bn.out; have := bk.out; have := bo.out; refine skip_ (w1 := ?_) (by rfl) rfl ?_ ?_; rotate_left
                ·go_simp
                 rfl
                refine hK.out _ _ ⟨((cell_far (p := ⟨ak, _, none⟩) a4.out _).trans (((cell_far (p := ⟨ak, _, none⟩) a4.out _).trans (((cell_far (p := ⟨ak, _, none⟩) a4.out _).trans (hHeld.1)))))), ((cell_far (p := ⟨ak, _, none⟩) a4.out _).trans (((cell_far (p := ⟨ak, _, none⟩) a4.out _).trans (((cell_far (p := ⟨ak, _, none⟩) a4.out _).trans (hHeld.2.1)))))), ((cell_far (p := ⟨ak, _, none⟩) a4.out _).trans (((cell_far (p := ⟨ak, _, none⟩) a4.out _).trans (((cell_far (p := ⟨ak, _, none⟩) a4.out _).trans (hHeld.2.2.1)))))), ((cell_far (p := ⟨ak, _, none⟩) aw.out _).trans (((cell_far (p := ⟨ak, _, none⟩) aw.out _).trans (((cell_far (p := ⟨ak, _, none⟩) aw.out _).trans (hHeld.2.2.2.1)))))), ((cell_far (p := ⟨ak, _, none⟩) aw.out _).trans (((cell_far (p := ⟨ak, _, none⟩) aw.out _).trans (((cell_far (p := ⟨ak, _, none⟩) aw.out _).trans (hHeld.2.2.2.2.1)))))), ((cell_far (p := ⟨ak, _, none⟩) aw.out _).trans (((cell_far (p := ⟨ak, _, none⟩) aw.out _).trans (((cell_far (p := ⟨ak, _, none⟩) aw.out _).trans (hHeld.2.2.2.2.2.1)))))), ((cell_far (p := ⟨ak, _, none⟩) aw.out _).trans (((cell_far (p := ⟨ak, _, none⟩) aw.out _).trans (((cell_far (p := ⟨ak, _, none⟩) aw.out _).trans (hHeld.2.2.2.2.2.2.1)))))), ((cell_far (p := ⟨ak, _, none⟩) aw.out _).trans (((cell_far (p := ⟨ak, _, none⟩) aw.out _).trans (((cell_far (p := ⟨ak, _, none⟩) aw.out _).trans (hHeld.2.2.2.2.2.2.2.1)))))), ((cell_far (p := ⟨ak, _, none⟩) (by first | exact Nat.ne_of_lt (Nat.lt_of_lt_of_le (by have := World.block_lt_of_cell? _ _ ar; first | rwa [add_block] at this | exact this) am.out) | (rw [add_block]; exact Nat.ne_of_lt (Nat.lt_of_lt_of_le (by have := World.block_lt_of_cell? _ _ ar; first | rwa [add_block] at this | exact this) am.out)) | (show (Addr.add _ _).block ≠ _; rw [add_block]; exact Nat.ne_of_lt (Nat.lt_of_lt_of_le (by have := World.block_lt_of_cell? _ _ ar; first | rwa [add_block] at this | exact this) am.out)) | (dsimp only; exact Nat.ne_of_lt (Nat.lt_of_lt_of_le (by have := World.block_lt_of_cell? _ _ ar; first | rwa [add_block] at this | exact this) am.out))) _).trans (((cell_far (p := ⟨ak, _, none⟩) (by first | exact Nat.ne_of_lt (Nat.lt_of_lt_of_le (by have := World.block_lt_of_cell? _ _ ar; first | rwa [add_block] at this | exact this) am.out) | (rw [add_block]; exact Nat.ne_of_lt (Nat.lt_of_lt_of_le (by have := World.block_lt_of_cell? _ _ ar; first | rwa [add_block] at this | exact this) am.out)) | (show (Addr.add _ _).block ≠ _; rw [add_block]; exact Nat.ne_of_lt (Nat.lt_of_lt_of_le (by have := World.block_lt_of_cell? _ _ ar; first | rwa [add_block] at this | exact this) am.out)) | (dsimp only; exact Nat.ne_of_lt (Nat.lt_of_lt_of_le (by have := World.block_lt_of_cell? _ _ ar; first | rwa [add_block] at this | exact this) am.out))) _).trans (((cell_far (p := ⟨ak, _, none⟩) (by first | exact Nat.ne_of_lt (Nat.lt_of_lt_of_le (by have := World.block_lt_of_cell? _ _ ar; first | rwa [add_block] at this | exact this) am.out) | (rw [add_block]; exact Nat.ne_of_lt (Nat.lt_of_lt_of_le (by have := World.block_lt_of_cell? _ _ ar; first | rwa [add_block] at this | exact this) am.out)) | (show (Addr.add _ _).block ≠ _; rw [add_block]; exact Nat.ne_of_lt (Nat.lt_of_lt_of_le (by have := World.block_lt_of_cell? _ _ ar; first | rwa [add_block] at this | exact this) am.out)) | (dsimp only; exact Nat.ne_of_lt (Nat.lt_of_lt_of_le (by have := World.block_lt_of_cell? _ _ ar; first | rwa [add_block] at this | exact this) am.out))) _).trans (hHeld.2.2.2.2.2.2.2.2.1)))))), ((cell_far (p := ⟨ak, _, none⟩) (by first | exact Nat.ne_of_lt (Nat.lt_of_lt_of_le (by have := World.block_lt_of_cell? _ _ aq; first | rwa [add_block] at this | exact this) am.out) | (rw [add_block]; exact Nat.ne_of_lt (Nat.lt_of_lt_of_le (by have := World.block_lt_of_cell? _ _ aq; first | rwa [add_block] at this | exact this) am.out)) | (show (Addr.add _ _).block ≠ _; rw [add_block]; exact Nat.ne_of_lt (Nat.lt_of_lt_of_le (by have := World.block_lt_of_cell? _ _ aq; first | rwa [add_block] at this | exact this) am.out)) | (dsimp only; exact Nat.ne_of_lt (Nat.lt_of_lt_of_le (by have := World.block_lt_of_cell? _ _ aq; first | rwa [add_block] at this | exact this) am.out))) _).trans (((cell_far (p := ⟨ak, _, none⟩) (by first | exact Nat.ne_of_lt (Nat.lt_of_lt_of_le (by have := World.block_lt_of_cell? _ _ aq; first | rwa [add_block] at this | exact this) am.out) | (rw [add_block]; exact Nat.ne_of_lt (Nat.lt_of_lt_of_le (by have := World.block_lt_of_cell? _ _ aq; first | rwa [add_block] at this | exact this) am.out)) | (show (Addr.add _ _).block ≠ _; rw [add_block]; exact Nat.ne_of_lt (Nat.lt_of_lt_of_le (by have := World.block_lt_of_cell? _ _ aq; first | rwa [add_block] at this | exact this) am.out)) | (dsimp only; exact Nat.ne_of_lt (Nat.lt_of_lt_of_le (by have := World.block_lt_of_cell? _ _ aq; first | rwa [add_block] at this | exact this) am.out))) _).trans (((cell_far (p := ⟨ak, _, none⟩) (by first | exact Nat.ne_of_lt (Nat.lt_of_lt_of_le (by have := World.block_lt_of_cell? _ _ aq; first | rwa [add_block] at this | exact this) am.out) | (rw [add_block]; exact Nat.ne_of_lt (Nat.lt_of_lt_of_le (by have := World.block_lt_of_cell? _ _ aq; first | rwa [add_block] at this | exact this) am.out)) | (show (Addr.add _ _).block ≠ _; rw [add_block]; exact Nat.ne_of_lt (Nat.lt_of_lt_of_le (by have := World.block_lt_of_cell? _ _ aq; first | rwa [add_block] at this | exact this) am.out)) | (dsimp only; exact Nat.ne_of_lt (Nat.lt_of_lt_of_le (by have := World.block_lt_of_cell? _ _ aq; first | rwa [add_block] at this | exact this) am.out))) _).trans (hHeld.2.2.2.2.2.2.2.2.2.1)))))), ((cell_far (p := ⟨ak, _, none⟩) (by first | exact Nat.ne_of_lt (Nat.lt_of_lt_of_le (by have := World.block_lt_of_cell? _ _ ap; first | rwa [add_block] at this | exact this) am.out) | (rw [add_block]; exact Nat.ne_of_lt (Nat.lt_of_lt_of_le (by have := World.block_lt_of_cell? _ _ ap; first | rwa [add_block] at this | exact this) am.out)) | (show (Addr.add _ _).block ≠ _; rw [add_block]; exact Nat.ne_of_lt (Nat.lt_of_lt_of_le (by have := World.block_lt_of_cell? _ _ ap; first | rwa [add_block] at this | exact this) am.out)) | (dsimp only; exact Nat.ne_of_lt (Nat.lt_of_lt_of_le (by have := World.block_lt_of_cell? _ _ ap; first | rwa [add_block] at this | exact this) am.out))) _).trans (((cell_far (p := ⟨ak, _, none⟩) (by first | exact Nat.ne_of_lt (Nat.lt_of_lt_of_le (by have := World.block_lt_of_cell? _ _ ap; first | rwa [add_block] at this | exact this) am.out) | (rw [add_block]; exact Nat.ne_of_lt (Nat.lt_of_lt_of_le (by have := World.block_lt_of_cell? _ _ ap; first | rwa [add_block] at this | exact this) am.out)) | (show (Addr.add _ _).block ≠ _; rw [add_block]; exact Nat.ne_of_lt (Nat.lt_of_lt_of_le (by have := World.block_lt_of_cell? _ _ ap; first | rwa [add_block] at this | exact this) am.out)) | (dsimp only; exact Nat.ne_of_lt (Nat.lt_of_lt_of_le (by have := World.block_lt_of_cell? _ _ ap; first | rwa [add_block] at this | exact this) am.out))) _).trans (((cell_far (p := ⟨ak, _, none⟩) (by first | exact Nat.ne_of_lt (Nat.lt_of_lt_of_le (by have := World.block_lt_of_cell? _ _ ap; first | rwa [add_block] at this | exact this) am.out) | (rw [add_block]; exact Nat.ne_of_lt (Nat.lt_of_lt_of_le (by have := World.block_lt_of_cell? _ _ ap; first | rwa [add_block] at this | exact this) am.out)) | (show (Addr.add _ _).block ≠ _; rw [add_block]; exact Nat.ne_of_lt (Nat.lt_of_lt_of_le (by have := World.block_lt_of_cell? _ _ ap; first | rwa [add_block] at this | exact this) am.out)) | (dsimp only; exact Nat.ne_of_lt (Nat.lt_of_lt_of_le (by have := World.block_lt_of_cell? _ _ ap; first | rwa [add_block] at this | exact this) am.out))) _).trans (hHeld.2.2.2.2.2.2.2.2.2.2))))))⟩ (fun hHeld => ?_)
                clear hK K; refine pU 13 16 (qB 14 16383) HT_ ?_
                refine done_ (done_of HT_.out (by kernel_rfl)) ?_
                by_cases b7 : bg = 0
                ·rw [if_pos b7] at H
                 have c65b0 : (bg == 0) = true := beq_iff_eq.mpr b7; have c65b1 : (bg != 0) = false := bne_eq_false_iff_eq.mpr b7; clear b7; have H' := aaM H; clear H; have := bn.out; have := aw.out; have := bk.out; have := bf.out; have := bo.out; have := a4.out; obtain ⟨_, _, _, _, _, _⟩ := bE3 a9.out; have := cb.out; have := bu.out; obtain ⟨_, _, _, _, _, _⟩ := bE3 ae.out; (try go_wp2); (try simp only [← a3])
                 go_roundg k3
                 case measure => have := ca.out; have := cc.out; have := cd.out; omega
                 case rel => exact ⟨(a0), (wrap64 (af + 1)), (b2), (b3), (b4), (bi), (bj), (bm), (eF), H', ⟨by have := ca.out; have := cc.out; have := cd.out; omega⟩, ⟨by (try simp only [a3]); (with_reducible repeat (first | apply rrA | apply rrN | apply rrD)); exact Kd.R_mono (rrF (p := ⟨az, 2, none⟩) (rrF (p := ⟨az, 1, none⟩) (rrF (p := ⟨az, 0, none⟩) (rrF (p := ⟨ak, 2, none⟩) (rrF (p := ⟨ak, 1, none⟩) (rrF (p := ⟨ak, 0, none⟩) (Kd.R_types (Kd.R_types ag.out a9.out (by decide)) ae.out (by decide)) (fun _ hk => hk.1.2) (.int .i64 bi)) (fun _ hk => hk.1.2) (.int .i64 bj)) (fun _ hk => hk.1.2) (.int .i64 bm)) (fun _ hk => hk.2) (.int .i64 bi)) (fun _ hk => hk.2) (.int .i64 bj)) (fun _ hk => hk.2) (.int .i64 bm)) (fun _ hk => trivial)⟩, ⟨by (try simp only [a3]); (with_reducible repeat (first | refine bN ?_ _ | refine bD ?_ | refine bA ?_ _)); refine blk_far ?_ cl.out _; (with_reducible repeat (first | refine bN ?_ _ | refine bD ?_ | refine bA ?_ _)); refine blk_far ?_ cl.out _; (with_reducible repeat (first | refine bN ?_ _ | refine bD ?_ | refine bA ?_ _)); refine blk_far ?_ cl.out _; (with_reducible repeat (first | refine bN ?_ _ | refine bD ?_ | refine bA ?_ _)); refine blk_far ?_ aw.out _; (with_reducible repeat (first | refine bN ?_ _ | refine bD ?_ | refine bA ?_ _)); refine blk_far ?_ aw.out _; (with_reducible repeat (first | refine bN ?_ _ | refine bD ?_ | refine bA ?_ _)); refine blk_far ?_ aw.out _; (with_reducible repeat (first | refine bN ?_ _ | refine bD ?_ | refine bA ?_ _)); exact aa.out⟩, ⟨by (try simp only [a3]); (with_reducible repeat (first | refine bN ?_ _ | refine bD ?_ | refine bA ?_ _)); refine blk_far ?_ bu.out _; (with_reducible repeat (first | refine bN ?_ _ | refine bD ?_ | refine bA ?_ _)); refine blk_far ?_ bu.out _; (with_reducible repeat (first | refine bN ?_ _ | refine bD ?_ | refine bA ?_ _)); refine blk_far ?_ bu.out _; (with_reducible repeat (first | refine bN ?_ _ | refine bD ?_ | refine bA ?_ _)); refine blk_far ?_ bf.out _; (with_reducible repeat (first | refine bN ?_ _ | refine bD ?_ | refine bA ?_ _)); refine blk_far ?_ bf.out _; (with_reducible repeat (first | refine bN ?_ _ | refine bD ?_ | refine bA ?_ _)); refine blk_far ?_ bf.out _; (with_reducible repeat (first | refine bN ?_ _ | refine bD ?_ | refine bA ?_ _)); exact ab.out⟩, ⟨by (try simp only [a3]); (with_reducible repeat (first | refine bN ?_ _ | refine bD ?_ | refine bA ?_ _)); refine blk_put (cs := #[.int .i64 bi, .int .i64 bj, .int .i64 au]) ?_ 2 _ rfl; (with_reducible repeat (first | refine bN ?_ _ | refine bD ?_ | refine bA ?_ _)); refine blk_put (cs := #[.int .i64 bi, .int .i64 av, .int .i64 au]) ?_ 1 _ rfl; (with_reducible repeat (first | refine bN ?_ _ | refine bD ?_ | refine bA ?_ _)); refine blk_put (cs := #[.int .i64 ax, .int .i64 av, .int .i64 au]) ?_ 0 _ rfl; (with_reducible repeat (first | refine bN ?_ _ | refine bD ?_ | refine bA ?_ _)); refine blk_far ?_ a4.out _; (with_reducible repeat (first | refine bN ?_ _ | refine bD ?_ | refine bA ?_ _)); refine blk_far ?_ a4.out _; (with_reducible repeat (first | refine bN ?_ _ | refine bD ?_ | refine bA ?_ _)); refine blk_far ?_ a4.out _; (with_reducible repeat (first | refine bN ?_ _ | refine bD ?_ | refine bA ?_ _)); exact ae.out⟩, ⟨lB HB⟩⟩
                ·rw [if_neg b7] at H
                 have c65b0 : (bg == 0) = false := beq_eq_false_iff_ne.mpr b7; have c65b1 : (bg != 0) = true := bne_iff_ne.mpr b7; simp only [Option.some.injEq, Prod.mk.injEq] at H; obtain ⟨rfl, rfl, rfl, rfl, rfl⟩ := H; have := bu.out; have := cb.out; have := bf.out; have := bk.out; obtain ⟨_, _, _, _, _, _⟩ := bE3 ab.out; (try go_wp2); refine bodyPost_ret (results_list (rs := [.tmp 6, .cell 7 54, .tmp 8]) rfl (by simp) (.tmp (.cell ay 54 #[.int .i64 0, .int .i64 0, .int .i64 0] (0, 0) _ rfl (bZ ab) Try.underlying54 rfl (by kernel_rfl) (.tmp .nil)))) rfl ?_
                 exact ⟨_, eE, by first | exact Kd.R_nil _ _ _ _ _ | exact Kd.N_nil _ _ _ _ _ | exact Kd.V_nil _ _ _ _ _ | exact Kd.Q_nil _ _ _ _ _ | exact Kd.S_nil _ _ _ _ _, lB HB⟩
               ·rw [if_neg di] at H
                exact absurd H (by simp)
              ·rw [if_neg dh] at H
               exact absurd H (by simp)
             ·rw [if_neg b6] at H
              have c61b0 : (ai == 1) = false := beq_eq_false_iff_ne.mpr b6; have c61b1 : (ai != 1) = true := bne_iff_ne.mpr b6; have H' := aaM H; clear H; have := bc.out; have := bd.out; have := cl.out; have := he.out; obtain ⟨_, _, _, _, _, _, _, _, _, _⟩ := bE5 aa.out; go_wp2; (try simp only [← a3])
              go_roundg k3
              case measure => have := ca.out; have := cc.out; have := cd.out; omega
              case rel => exact ⟨(a0), (wrap64 (af + 1)), (b2), (b3), (b4), (ax), (av), (au), (eF), H', ⟨by have := ca.out; have := cc.out; have := cd.out; omega⟩, ⟨by (try simp only [a3]); (with_reducible repeat (first | apply rrA | apply rrN | apply rrD)); exact ag.out⟩, ⟨by (try simp only [a3]); (with_reducible repeat (first | refine bN ?_ _ | refine bD ?_ | refine bA ?_ _)); exact aa.out⟩, ⟨by (try simp only [a3]); (with_reducible repeat (first | refine bN ?_ _ | refine bD ?_ | refine bA ?_ _)); exact ab.out⟩, ⟨by (try simp only [a3]); (with_reducible repeat (first | refine bN ?_ _ | refine bD ?_ | refine bA ?_ _)); exact ae.out⟩, ⟨lB HB⟩⟩
         ·rw [if_neg b1] at H
          have c43b0 : decide (af < a2) = false := decide_eq_false b1; clear b1; simp only [Option.some.injEq, Prod.mk.injEq] at H; obtain ⟨rfl, rfl, rfl, rfl, rfl⟩ := H; (try go_wp2); replace ag := aaM (rrD ag.out); replace aa := aaM (bD aa.out); replace ab := aaM (bD ab.out); replace ae := aaM (bD ae.out); replace HB := aaM (lD HB.out); refine start_ (n := 5) (S := fun w' => w'.cell? ⟨az, 0, none⟩ = some (.int .i64 ax) ∧ w'.cell? ⟨az, 1, none⟩ = some (.int .i64 av) ∧ w'.cell? ⟨az, 2, none⟩ = some (.int .i64 au)) (ds := []) _ (by kernel_rfl) rfl rfl hD (fun hHeld => ?_); generalize wr.drew = jw at ag aa ab ae HB hHeld ⊢; refine pure_ (i := 0) (N := some 100) (v := ?_) (a' := ?_) (qB 5 1) rfl rfl (by kernel_rfl) (fun _ _ _ h => h) (Or.inl ⟨by rfl, ?_⟩) ?_ ?_; rotate_left
          ·intro w'
           go_simp; (with_reducible rfl)
          rotate_left
          ·simp only [Act.put, ssB, ssZ, ssS, i64_w, i32_w]
           rfl
          refine pure_ (i := 2) (N := some 6) (v := ?_) (a' := ?_) (qB 5 5) rfl rfl (by kernel_rfl) (fun _ _ _ h => h) (Or.inl ⟨by rfl, ?_⟩) ?_ ?_; rotate_left
          ·intro w'
           go_simp; (with_reducible rfl)
          rotate_left
          ·simp only [Act.put, ssB, ssZ, ssS, i64_w, i32_w]
           rfl
          refine take_ (i := 1) (N := some 101) (v := ?_) (a' := ?_) (qB 5 7) rfl rfl (by kernel_rfl) (fun _ _ _ h => h) (Or.inl ⟨by rfl, ?_⟩) hHeld ?_ ?_; rotate_left
          ·rintro w' ⟨s0, s1, s2⟩
           go_simp; (with_reducible rfl)
          rotate_left
          ·simp only [Act.put, ssB, ssZ, ssS, i64_w, i32_w]
           rfl
          refine one_ (i := 3) (N := none) (qB 5 15) rfl rfl (by kernel_rfl) (by decide) (fun K hK => ?_); obtain ⟨jx, -, -, jy, -, -⟩ := bE3 ab.out; have := bc.out; have := cb.out; have := bd.out; have := bu.out; obtain ⟨-, jz, -, -, j1, -⟩ := bE3 ab.out; have := bc.out; have := cb.out; have := bd.out; have := bu.out; obtain ⟨-, -, j2, -, -, j3⟩ := bE3 ab.out; have := bc.out; have := cb.out; have := bd.out; have := bu.out; refine skip_ (w1 := ?_) (by rfl) rfl ?_ ?_; rotate_left
          ·go_simp
           rfl
          refine hK.out _ _ (cH hHeld) (fun hHeld => ?_); clear hK K; refine pure_ (i := 4) (N := some 8) (v := ?_) (a' := ?_) (qB 5 31) rfl rfl (by kernel_rfl) (fun _ _ _ h => h) (Or.inl ⟨by rfl, ?_⟩) ?_ ?_; rotate_left
          ·intro w'
           go_simp; (with_reducible rfl)
          rotate_left
          ·simp only [Act.put, ssB, ssZ, ssS, i64_w, i32_w]
           rfl
          refine done_ (by kernel_rfl) ?_; (try go_wp2); refine bodyPost_ret (results_list (rs := [.tmp 6, .cell 7 54, .tmp 8]) rfl (by simp) (.tmp (.cell ay 54 #[.int .i64 ax, .int .i64 av, .int .i64 au] (0, 0) _ rfl (bZ ab) Try.underlying54 rfl (by kernel_rfl) (.tmp .nil)))) rfl ?_
          exact ⟨_, eE, by (with_reducible repeat (first | apply rrA | apply rrN | apply rrD)); exact Kd.R_mono (rrF (p := ⟨ay, 2, none⟩) (rrF (p := ⟨ay, 1, none⟩) (rrF (p := ⟨ay, 0, none⟩) (Kd.R_types ag.out ab.out (by decide)) (fun _ hk => hk.2) (.int .i64 ax)) (fun _ hk => hk.2) (.int .i64 av)) (fun _ hk => hk.2) (.int .i64 au)) (fun _ hk => trivial), lB HB⟩
 ·replace c5 := Bool.eq_false_iff.mpr c5
  subst c5
  have H1 : (some (([] : List Int), 0, 0, 0, 8)) = some (r1, r2, r3, r4, r5) := by rw [if_neg (show ¬ (false = true) by decide)] at H; exact H
  clear H; have H := H1; clear H1; simp only [Option.some.injEq, Prod.mk.injEq] at H; obtain ⟨rfl, rfl, rfl, rfl, rfl⟩ := H; go_enter Try.func34, Try.ntmps34
  go_wp2_with (first | ((with_reducible refine gate_dst (N := 3) rfl ?_); refine bxF w HB 3 #[.int .i64 ai, .int .i64 al, .int .i64 ah, .slice a7 aj.length a5, .slice bb ac.length a6] 25 ?_; intro ao hg j4 hb aa HB bp; have c7 := bp; clear hb hg) | ((with_reducible refine gate_dst (N := 7) rfl ?_); refine bxF w HB 7 #[.int .i64 0, .int .i64 0, .int .i64 0] 54 ?_; intro ay hg j5 hb ab HB bq; have c8 := bq; obtain ⟨bc, bd⟩ := nS hg aa; replace aa := bY hb aa; clear hb hg; have := bc.out; have := bd.out; obtain ⟨_, _, _, _, _, _, _, _, _, _⟩ := bE5 aa.out) | ((with_reducible refine gate_callee (f := 18) rfl ?_); refine gL (some 19) Try.func18 #[.agg #[.int .i64 ai, .int .i64 al, .int .i64 ah, .slice a7 aj.length a5, .slice bb ac.length a6]] ?_; (with_reducible refine (hist_Right.calls ai al ah _ _ aj _ _ ac false _ ?side1 ?side2 ?side3 ?side4 A4.out).mono ?_); (case side1 => exact cZ (ccB b8.out HB.out)); (case side2 => exact ch.out); (case side3 => exact cZ (ccB b9.out HB.out)); (case side4 => exact ci.out); rintro e j6 ⟨rfl, hb⟩; refine ⟨_, rfl, ?_⟩; replace aa := bY hb aa; replace ab := bY hb ab; replace HB := aaM (lP (lB HB) hb); (try clear hb); obtain ⟨_, _, _, _, _, _⟩ := bE3 ab.out))
  refine bodyPost_ret (results_list (rs := [.tmp 6, .cell 7 54, .tmp 8]) rfl (by simp) (.tmp (.cell ay 54 #[.int .i64 0, .int .i64 0, .int .i64 0] (0, 0) _ rfl (bZ ab) Try.underlying54 rfl (by kernel_rfl) (.tmp .nil)))) rfl ?_
  exact ⟨_, eE, by first | exact Kd.R_nil _ _ _ _ _ | exact Kd.N_nil _ _ _ _ _ | exact Kd.V_nil _ _ _ _ _ | exact Kd.Q_nil _ _ _ _ _ | exact Kd.S_nil _ _ _ _ _, lB HB⟩

-- NOT PRINTED: function 19 (split_bins)

/-! ### frac_Right: function 20 -/
def frac_Right.f (a0_0 : Int) (a0_1 : Int) (a0_2 : Int) : Option (Bool) := some (a0_2 != 0)
set_option maxHeartbeats 8000000 in
set_option maxRecDepth 100000 in
theorem frac_Right.calls (ab : Int) (ac : Int) (aa : Int) (r : Bool) (w : World) (h : frac_Right.f ab ac aa = some r) :
  Calls Try.prog 20 #[.agg #[.int .u64 ab, .int .u64 ac, .int .u64 aa]] w fun e w' => e = .returned (.bool r) ∧ Below w.heap.size w w' := by
 have ag := Try.underlying32
 have HB := aaM (Below.refl w.heap.size w)
 have H : (some (aa != 0)) = some r := h
 clear h
 obtain rfl := Option.some.inj H
 go_enter Try.func20, Try.ntmps20
 go_wp2_with (first | ((with_reducible refine gate_dst (N := 1) rfl ?_); refine bxF w HB 1 #[.int .u64 ab, .int .u64 ac, .int .u64 aa] 32 ?_; intro ah hg w2 hb ae HB af; have ai := af; clear hb hg; obtain ⟨_, _, _, _, _, _⟩ := bE3 ae.out))
 all_goals (go_ret; exact ⟨by first | rfl | (simp [errW_none, errW_some] <;> rfl) | (simp [*, errW_none, errW_some] <;> rfl) | (simp_all; done), lB HB⟩)

/-! ### cmp_isNaN_int: function 51 -/
def cmp_isNaN_int.f (a0 : Int) : Option (Bool) := some (a0 != a0)
set_option maxHeartbeats 8000000 in
set_option maxRecDepth 100000 in
theorem cmp_isNaN_int.calls (a0 : Int) (r : Bool) (w : World) (h : cmp_isNaN_int.f a0 = some r) :
  Calls Try.prog 51 #[.int .i64 a0] w fun e w' => e = .returned (.bool r) ∧ Drawn0 w w' := by
 have H : (some (a0 != a0)) = some r := h
 clear h
 obtain rfl := Option.some.inj H
 go_enter Try.func51, Try.ntmps51
 go_wp2
 all_goals (go_ret; exact ⟨eF, by repeat (first | exact Drawn0.refl _ | apply Drawn0.step)⟩)

/-! ### cmp_Compare_int: function 35 -/
def cmp_Compare_int.f (a0 : Int) (a1 : Int) : Option (Int) := (cmp_isNaN_int.f a0).bind fun t249 => ((cmp_isNaN_int.f a1).bind fun t250 => (if t249 = true then (if t250 = true then (some 0) else (some (-1))) else (if t250 = true then (some 1) else (if a0 < a1 then (some (-1)) else (if a0 > a1 then (some 1) else (some 0))))))
set_option maxHeartbeats 8000000 in
set_option maxRecDepth 100000 in
theorem cmp_Compare_int.calls (a0 : Int) (a1 : Int) (r : Int) (w : World) (h : cmp_Compare_int.f a0 a1 = some r) :
  Calls Try.prog 35 #[.int .i64 a0, .int .i64 a1] w fun e w' => e = .returned (.int .i64 r) ∧ Drawn0 w w' := by
 have H : ((cmp_isNaN_int.f a0).bind fun ab => ((cmp_isNaN_int.f a1).bind fun aa => (if ab = true then (if aa = true then (some 0) else (some (-1))) else (if aa = true then (some 1) else (if a0 < a1 then (some (-1)) else (if a0 > a1 then (some 1) else (some 0))))))) = some r := h
 clear h
 replace H := ooB.mp H
 obtain ⟨ab, ac, H⟩ := H
 (try dsimp only at H)
 have A3 := aaM ac
 clear ac
 replace H := ooB.mp H
 obtain ⟨aa, ae, H⟩ := H
 (try dsimp only at H)
 have A4 := aaM ae
 clear ae
 by_cases c5 : ab = true
 ·subst c5
  have H1 : (if aa = true then (some 0) else (some (-1))) = some r := by rw [if_pos rfl] at H; exact H
  clear H; have H := H1; clear H1
  by_cases c6 : aa = true
  ·subst c6
   have H1 : (some 0) = some r := by rw [if_pos rfl] at H; exact H
   clear H; have H := H1; clear H1; obtain rfl := Option.some.inj H; go_enter Try.func35, Try.ntmps35
   go_wp2_with (first | ((with_reducible refine gate_callee (f := 51) rfl ?_); refine gL (some 8) Try.func51 #[.int .i64 a0] ?_; (with_reducible refine (cmp_isNaN_int.calls a0 true _ A3.out).mono ?_); rintro e w' ⟨rfl, ⟨nd, rfl⟩⟩; refine ⟨_, rfl, ?_⟩) | ((with_reducible refine gate_callee (f := 51) rfl ?_); refine gL (some 10) Try.func51 #[.int .i64 a1] ?_; (with_reducible refine (cmp_isNaN_int.calls a1 true _ A4.out).mono ?_); rintro e w' ⟨rfl, ⟨nd, rfl⟩⟩; refine ⟨_, rfl, ?_⟩))
   all_goals (go_ret; exact ⟨eF, by repeat (first | exact Drawn0.refl _ | apply Drawn0.step)⟩)
  ·replace c6 := Bool.eq_false_iff.mpr c6
   subst c6
   have H1 : (some (-1)) = some r := by rw [if_neg (show ¬ (false = true) by decide)] at H; exact H
   clear H; have H := H1; clear H1; obtain rfl := Option.some.inj H; go_enter Try.func35, Try.ntmps35
   go_wp2_with (first | ((with_reducible refine gate_callee (f := 51) rfl ?_); refine gL (some 8) Try.func51 #[.int .i64 a0] ?_; (with_reducible refine (cmp_isNaN_int.calls a0 true _ A3.out).mono ?_); rintro e w' ⟨rfl, ⟨nd, rfl⟩⟩; refine ⟨_, rfl, ?_⟩) | ((with_reducible refine gate_callee (f := 51) rfl ?_); refine gL (some 10) Try.func51 #[.int .i64 a1] ?_; (with_reducible refine (cmp_isNaN_int.calls a1 false _ A4.out).mono ?_); rintro e w' ⟨rfl, ⟨nd, rfl⟩⟩; refine ⟨_, rfl, ?_⟩))
   all_goals (go_ret; exact ⟨eF, by repeat (first | exact Drawn0.refl _ | apply Drawn0.step)⟩)
 ·replace c5 := Bool.eq_false_iff.mpr c5
  subst c5
  have H1 : (if aa = true then (some 1) else (if a0 < a1 then (some (-1)) else (if a0 > a1 then (some 1) else (some 0)))) = some r := by rw [if_neg (show ¬ (false = true) by decide)] at H; exact H
  clear H; have H := H1; clear H1
  by_cases c7 : aa = true
  ·subst c7
   have H1 : (some 1) = some r := by rw [if_pos rfl] at H; exact H
   clear H; have H := H1; clear H1; obtain rfl := Option.some.inj H; go_enter Try.func35, Try.ntmps35
   go_wp2_with (first | ((with_reducible refine gate_callee (f := 51) rfl ?_); refine gL (some 8) Try.func51 #[.int .i64 a0] ?_; (with_reducible refine (cmp_isNaN_int.calls a0 false _ A3.out).mono ?_); rintro e w' ⟨rfl, ⟨nd, rfl⟩⟩; refine ⟨_, rfl, ?_⟩) | ((with_reducible refine gate_callee (f := 51) rfl ?_); refine gL (some 10) Try.func51 #[.int .i64 a1] ?_; (with_reducible refine (cmp_isNaN_int.calls a1 true _ A4.out).mono ?_); rintro e w' ⟨rfl, ⟨nd, rfl⟩⟩; refine ⟨_, rfl, ?_⟩))
   all_goals (go_ret; exact ⟨eF, by repeat (first | exact Drawn0.refl _ | apply Drawn0.step)⟩)
  ·replace c7 := Bool.eq_false_iff.mpr c7
   subst c7
   have H1 : (if a0 < a1 then (some (-1)) else (if a0 > a1 then (some 1) else (some 0))) = some r := by rw [if_neg (show ¬ (false = true) by decide)] at H; exact H
   clear H; have H := H1; clear H1
   by_cases c8 : a0 < a1
   ·rw [if_pos c8] at H
    have c8b0 : decide (a0 < a1) = true := decide_eq_true c8; clear c8; obtain rfl := Option.some.inj H; go_enter Try.func35, Try.ntmps35
    go_wp2_with (first | ((with_reducible refine gate_callee (f := 51) rfl ?_); refine gL (some 8) Try.func51 #[.int .i64 a0] ?_; (with_reducible refine (cmp_isNaN_int.calls a0 false _ A3.out).mono ?_); rintro e w' ⟨rfl, ⟨nd, rfl⟩⟩; refine ⟨_, rfl, ?_⟩) | ((with_reducible refine gate_callee (f := 51) rfl ?_); refine gL (some 10) Try.func51 #[.int .i64 a1] ?_; (with_reducible refine (cmp_isNaN_int.calls a1 false _ A4.out).mono ?_); rintro e w' ⟨rfl, ⟨nd, rfl⟩⟩; refine ⟨_, rfl, ?_⟩))
    all_goals (go_ret; exact ⟨eF, by repeat (first | exact Drawn0.refl _ | apply Drawn0.step)⟩)
   ·rw [if_neg c8] at H
    have c8b0 : decide (a0 < a1) = false := decide_eq_false c8; clear c8
    by_cases c9 : a0 > a1
    ·rw [if_pos c9] at H
     have c9b0 : decide (a1 < a0) = true := decide_eq_true c9; clear c9; obtain rfl := Option.some.inj H; go_enter Try.func35, Try.ntmps35
     go_wp2_with (first | ((with_reducible refine gate_callee (f := 51) rfl ?_); refine gL (some 8) Try.func51 #[.int .i64 a0] ?_; (with_reducible refine (cmp_isNaN_int.calls a0 false _ A3.out).mono ?_); rintro e w' ⟨rfl, ⟨nd, rfl⟩⟩; refine ⟨_, rfl, ?_⟩) | ((with_reducible refine gate_callee (f := 51) rfl ?_); refine gL (some 10) Try.func51 #[.int .i64 a1] ?_; (with_reducible refine (cmp_isNaN_int.calls a1 false _ A4.out).mono ?_); rintro e w' ⟨rfl, ⟨nd, rfl⟩⟩; refine ⟨_, rfl, ?_⟩))
     all_goals (go_ret; exact ⟨eF, by repeat (first | exact Drawn0.refl _ | apply Drawn0.step)⟩)
    ·rw [if_neg c9] at H
     have c9b0 : decide (a1 < a0) = false := decide_eq_false c9; clear c9; obtain rfl := Option.some.inj H; go_enter Try.func35, Try.ntmps35
     go_wp2_with (first | ((with_reducible refine gate_callee (f := 51) rfl ?_); refine gL (some 8) Try.func51 #[.int .i64 a0] ?_; (with_reducible refine (cmp_isNaN_int.calls a0 false _ A3.out).mono ?_); rintro e w' ⟨rfl, ⟨nd, rfl⟩⟩; refine ⟨_, rfl, ?_⟩) | ((with_reducible refine gate_callee (f := 51) rfl ?_); refine gL (some 10) Try.func51 #[.int .i64 a1] ?_; (with_reducible refine (cmp_isNaN_int.calls a1 false _ A4.out).mono ?_); rintro e w' ⟨rfl, ⟨nd, rfl⟩⟩; refine ⟨_, rfl, ?_⟩))
     all_goals (go_ret; exact ⟨eF, by repeat (first | exact Drawn0.refl _ | apply Drawn0.step)⟩)

/-! ### frac_rank: function 36 -/
def frac_rank.f (a0 : Bool) : Option (Int) := if a0 = true then (some 1) else (some 0)
set_option maxHeartbeats 8000000 in
set_option maxRecDepth 100000 in
theorem frac_rank.calls (a0 : Bool) (r : Int) (w : World) (h : frac_rank.f a0 = some r) :
  Calls Try.prog 36 #[.bool a0] w fun e w' => e = .returned (.int .i64 r) ∧ Drawn0 w w' := by
 have H : (if a0 = true then (some 1) else (some 0)) = some r := h
 clear h
 by_cases c2 : a0 = true
 ·subst c2
  have H1 : (some 1) = some r := by rw [if_pos rfl] at H; exact H
  clear H; have H := H1; clear H1; obtain rfl := Option.some.inj H; go_enter Try.func36, Try.ntmps36; go_wp2
  all_goals (go_ret; exact ⟨eF, by repeat (first | exact Drawn0.refl _ | apply Drawn0.step)⟩)
 ·replace c2 := Bool.eq_false_iff.mpr c2
  subst c2
  have H1 : (some 0) = some r := by rw [if_neg (show ¬ (false = true) by decide)] at H; exact H
  clear H; have H := H1; clear H1; obtain rfl := Option.some.inj H; go_enter Try.func36, Try.ntmps36; go_wp2
  all_goals (go_ret; exact ⟨eF, by repeat (first | exact Drawn0.refl _ | apply Drawn0.step)⟩)

/-! ### prod_CmpLong: function 37 -/
theorem partA87 (xs : Array Value) (i : Nat) (v : Value) (w : World) (h : xs[i]? = some v) : (part 28 xs i).run Try.prog w = .ok v w := by
 have hs : ∀ w, (sizeOf 28).run Try.prog w = .ok 1 w := fun _ => by kernel_rfl
 unfold part
 simp [hs, h]
set_option maxRecDepth 100000 in
theorem eqArr87 (d : Nat) (w : World) (x0 x1 x2 y0 y1 y2 : Int) :
  (Op.equalIn (d + 2) 87 (.agg #[.int .u64 x0, .int .u64 x1, .int .u64 x2]) (.agg #[.int .u64 y0, .int .u64 y1, .int .u64 y2])).run Try.prog w = .ok (x0 == y0 && (x1 == y1 && x2 == y2)) w := by
 have hu49 := Try.underlying87
 have hu26 := Try.underlying28
 have hs : ∀ w, (sizeOf 28).run Try.prog w = .ok 1 w := fun _ => by kernel_rfl
 rw [Op.equalIn]
 simp [run_underlying hu49, hs, List.range', partA87, run_equalIn_int w d 28 .u64 .u64 _ _ hu26]
 by_cases h0 : x0 = y0
 ·by_cases h1 : x1 = y1
  ·by_cases h2 : x2 = y2 <;> simp [h0, h1, h2]
  ·simp [h0, h1]
 ·simp [h0]
attribute [local go_sem high] eqArr87
def prod_CmpLong.f (a0 a1 a2 b0 b1 b2 : Int) : Option Int := if a0 = b0 then (if a1 = b1 then (if a2 = b2 then some 0 else cmp_Compare_uint64.f a2 b2) else cmp_Compare_uint64.f a1 b1) else cmp_Compare_uint64.f a0 b0
set_option maxHeartbeats 8000000 in
set_option maxRecDepth 100000 in
theorem prod_CmpLong.calls (a0 a1 a2 b0 b1 b2 : Int) (r : Int) (w : World) (h : prod_CmpLong.f a0 a1 a2 b0 b1 b2 = some r) :
  Calls Try.prog 37 #[.agg #[.int .u64 a0, .int .u64 a1, .int .u64 a2], .agg #[.int .u64 b0, .int .u64 b1, .int .u64 b2]] w fun e w' => e = .returned (.int .i64 r) ∧ Below w.heap.size w w' := by
 have an := Try.underlying87
 have ao := Try.underlying28
 have HB := aaM (Below.refl w.heap.size w)
 have HF := aaM h
 clear h
 by_cases hall : (a0 == b0 && (a1 == b1 && a2 == b2)) = true
 ·have e0 : a0 = b0 ∧ a1 = b1 ∧ a2 = b2 := by simpa using hall
  obtain ⟨rfl, rfl, rfl⟩ := e0
  have hr : r = 0 := by
   have := HF.out; unfold prod_CmpLong.f at this; rw [if_pos rfl, if_pos rfl, if_pos rfl] at this; exact (Option.some.inj this).symm
  subst hr; clear hall HF; go_enter Try.func37, Try.ntmps37
  go_wp2_with (first | ((with_reducible refine gate_dst (N := 2) rfl ?_); refine bxF w HB 2 #[.int .u64 a0, .int .u64 a1, .int .u64 a2] 87 ?_; intro ab hg w3 hb aa HB ae; have am := ae; clear hb hg) | ((with_reducible refine gate_dst (N := 3) rfl ?_); refine bxE 3 #[.int .u64 a0, .int .u64 a1, .int .u64 a2] 87 ?_; intro ac hg w4 hbox hb; replace aa := bY hb aa; replace HB := aaM (lP (lB HB) hb); have af := aaM (hbox); clear hb hbox hg; obtain ⟨ag, ah, ai, -, -, -⟩ := bE3 aa.out; obtain ⟨aj, ak, al, -, -, -⟩ := bE3 af.out))
  go_ret
  exact ⟨rfl, HB.out⟩
 ·have HN : Aside0 (¬ (a0 = b0 ∧ a1 = b1 ∧ a2 = b2)) := ⟨by simpa using hall⟩
  have hall := Bool.eq_false_iff.2 hall; go_enter Try.func37, Try.ntmps37
  go_wp2_with (first | ((with_reducible refine gate_dst (N := 2) rfl ?_); refine bxF w HB 2 #[.int .u64 a0, .int .u64 a1, .int .u64 a2] 87 ?_; intro ab hg w3 hb aa HB ae; have am := ae; clear hb hg) | ((with_reducible refine gate_dst (N := 3) rfl ?_); refine bxE 3 #[.int .u64 b0, .int .u64 b1, .int .u64 b2] 87 ?_; intro ac hg w4 hbox hb; replace aa := bY hb aa; replace HB := aaM (lP (lB HB) hb); have af := aaM (hbox); clear hb hbox hg; obtain ⟨ag, ah, ai, -, -, -⟩ := bE3 aa.out; obtain ⟨aj, ak, al, -, -, -⟩ := bE3 af.out))
  go_loopw [9] (fun v9 wr => ∃ k : Nat, v9 = .int .i64 (k : Int) ∧ Aside0 (k ≤ 3 ∧ (0 < k → a0 = b0) ∧ (1 < k → a1 = b1) ∧ (2 < k → a2 = b2)) ∧ Drawn0 w4 wr) (fun v9 _ => 3 - (intOf v9).toNat)
  case atStart => exact ⟨0, rfl, ⟨by omega, by omega, by omega, by omega⟩, Drawn0.refl _⟩
  case round =>
   obtain ⟨k, rfl, HK, ⟨m1, rfl⟩⟩ := hrel; clear hall
   have hk : k = 0 ∨ k = 1 ∨ k = 2 ∨ k = 3 := by have := HK.out.1; omega
   rcases hk with rfl | rfl | rfl | rfl
   ·by_cases hd : a0 = b0
    ·have hdb : (a0 != b0) = false := by rw [hd]; simp
     have HD := aaM hd; clear hd; go_wp2
     repeat (go_quiet (fail); try go_wp2)
     go_roundw
     case rel => exact ⟨1, rfl, ⟨by omega, fun _ => HD.out, fun _ => by omega, fun _ => by omega⟩, by repeat (first | exact Drawn0.refl _ | apply Drawn0.step)⟩
     case measure => simp [intOf]
    ·have hdb : (a0 != b0) = true := bne_iff_ne.2 hd
     have HC : Aside0 (cmp_Compare_uint64.f a0 b0 = some r) := ⟨by
      have := HF.out; unfold prod_CmpLong.f at this; rwa [if_neg hd] at this⟩
     clear hd; go_wp2; go_quiet (fail); go_wp2
     have HW : Drawn0 w4 ((w4.drewN m1).drewN nq) := by repeat (first | exact Drawn0.refl _ | apply Drawn0.step)
     have hcA : ((w4.drewN m1).drewN nq).cell? ⟨ab, 0, none⟩ = some (.int .u64 a0) := by rw [World.cell?_drewN, World.cell?_drewN]; exact ag
     have hcB : ((w4.drewN m1).drewN nq).cell? ⟨ac, 0, none⟩ = some (.int .u64 b0) := by rw [World.cell?_drewN, World.cell?_drewN]; exact aj
     generalize (w4.drewN m1).drewN nq = W5 at *; go_quiet ((go_at_call 52; exact Calls.quiet_of ((cmp_Compare_uint64.calls _ _ r _ HC.out).mono fun e w' ⟨he, hd⟩ => ⟨he, hd.out⟩))); go_wp2; obtain ⟨m5, rfl⟩ := HW.out; go_ret
     exact ⟨rfl, by repeat (first | exact HB.out | apply lN | apply lD)⟩
   ·by_cases hd : a1 = b1
    ·have hdb : (a1 != b1) = false := by rw [hd]; simp
     have HD := aaM hd; clear hd; go_wp2
     repeat (go_quiet (fail); try go_wp2)
     go_roundw
     case rel => exact ⟨2, rfl, ⟨by omega, fun _ => HK.out.2.1 (by omega), fun _ => HD.out, fun _ => by omega⟩, by repeat (first | exact Drawn0.refl _ | apply Drawn0.step)⟩
     case measure => simp [intOf]
    ·have hdb : (a1 != b1) = true := bne_iff_ne.2 hd
     have HC : Aside0 (cmp_Compare_uint64.f a1 b1 = some r) := ⟨by
      have := HF.out; unfold prod_CmpLong.f at this; rwa [if_pos (HK.out.2.1 (by omega)), if_neg hd] at this⟩
     clear hd; go_wp2; go_quiet (fail); go_wp2
     have HW : Drawn0 w4 ((w4.drewN m1).drewN nq) := by repeat (first | exact Drawn0.refl _ | apply Drawn0.step)
     have hcA : ((w4.drewN m1).drewN nq).cell? ⟨ab, 1, none⟩ = some (.int .u64 a1) := by rw [World.cell?_drewN, World.cell?_drewN]; exact ah
     have hcB : ((w4.drewN m1).drewN nq).cell? ⟨ac, 1, none⟩ = some (.int .u64 b1) := by rw [World.cell?_drewN, World.cell?_drewN]; exact ak
     generalize (w4.drewN m1).drewN nq = W5 at *; go_quiet ((go_at_call 52; exact Calls.quiet_of ((cmp_Compare_uint64.calls _ _ r _ HC.out).mono fun e w' ⟨he, hd⟩ => ⟨he, hd.out⟩))); go_wp2; obtain ⟨m5, rfl⟩ := HW.out; go_ret
     exact ⟨rfl, by repeat (first | exact HB.out | apply lN | apply lD)⟩
   ·by_cases hd : a2 = b2
    ·have hdb : (a2 != b2) = false := by rw [hd]; simp
     have HD := aaM hd; clear hd; go_wp2
     repeat (go_quiet (fail); try go_wp2)
     go_roundw
     case rel => exact ⟨3, rfl, ⟨by omega, fun _ => HK.out.2.1 (by omega), fun _ => HK.out.2.2.1 (by omega), fun _ => HD.out⟩, by repeat (first | exact Drawn0.refl _ | apply Drawn0.step)⟩
     case measure => simp [intOf]
    ·have hdb : (a2 != b2) = true := bne_iff_ne.2 hd
     have HC : Aside0 (cmp_Compare_uint64.f a2 b2 = some r) := ⟨by
      have := HF.out; unfold prod_CmpLong.f at this; rwa [if_pos (HK.out.2.1 (by omega)), if_pos (HK.out.2.2.1 (by omega)), if_neg hd] at this⟩
     clear hd; go_wp2; go_quiet (fail); go_wp2
     have HW : Drawn0 w4 ((w4.drewN m1).drewN nq) := by repeat (first | exact Drawn0.refl _ | apply Drawn0.step)
     have hcA : ((w4.drewN m1).drewN nq).cell? ⟨ab, 2, none⟩ = some (.int .u64 a2) := by rw [World.cell?_drewN, World.cell?_drewN]; exact ai
     have hcB : ((w4.drewN m1).drewN nq).cell? ⟨ac, 2, none⟩ = some (.int .u64 b2) := by rw [World.cell?_drewN, World.cell?_drewN]; exact al
     generalize (w4.drewN m1).drewN nq = W5 at *; go_quiet ((go_at_call 52; exact Calls.quiet_of ((cmp_Compare_uint64.calls _ _ r _ HC.out).mono fun e w' ⟨he, hd⟩ => ⟨he, hd.out⟩))); go_wp2; obtain ⟨m5, rfl⟩ := HW.out; go_ret
     exact ⟨rfl, by repeat (first | exact HB.out | apply lN | apply lD)⟩
   ·exact absurd ⟨HK.out.2.1 (by omega), HK.out.2.2.1 (by omega), HK.out.2.2.2 (by omega)⟩ HN.out


/-! ### frac_Cmp: function 21 -/
def frac_Cmp.j0 : Nat → Bool → Int → Int → Int → Int → Int → Int → Option (Int)
 | 0, _, _, _, _, _, _, _ => none
 | k + 1, x12, x252000, x252001, x252002, x253000, x253001, x253002 => if x12 = true then ((frac_Right.f x252000 x252001 x252002).bind fun t255 => ((frac_rank.f t255).bind fun t256 => ((frac_Right.f x253000 x253001 x253002).bind fun t257 => ((frac_rank.f t257).bind fun t258 => ((cmp_Compare_int.f t256 t258).bind fun t259 => (some t259)))))) else ((prod_Times.f x252000 x252001 x253002).bind fun bt260 => ((prod_Times.f x253000 x253001 x252002).bind fun bt263 => ((prod_CmpLong.f bt260.1 bt260.2.1 bt260.2.2 bt263.1 bt263.2.1 bt263.2.2).bind fun t266 => (some t266))))
def frac_Cmp.f (k : Nat) (a0_0 : Int) (a0_1 : Int) (a0_2 : Int) (a1_0 : Int) (a1_1 : Int) (a1_2 : Int) : Option (Int) := (frac_Right.f a0_0 a0_1 a0_2).bind fun t253 => (if t253 = true then ((frac_Right.f a1_0 a1_1 a1_2).bind fun t254 => (frac_Cmp.j0 k (!t254) a0_0 a0_1 a0_2 a1_0 a1_1 a1_2)) else (frac_Cmp.j0 k true a0_0 a0_1 a0_2 a1_0 a1_1 a1_2))
theorem frac_Cmp.mono_l : ∀ k, (∀ y0 y1 y2 y3 y4 y5 y6, LeO (frac_Cmp.j0 k y0 y1 y2 y3 y4 y5 y6) (frac_Cmp.j0 (k + 1) y0 y1 y2 y3 y4 y5 y6))
 | 0 => fun _ _ _ _ _ _ _ r h => by simp [frac_Cmp.j0] at h
 | k + 1 => by
  have ih0 := frac_Cmp.mono_l k
  ·intro y0 y1 y2 y3 y4 y5 y6
   unfold frac_Cmp.j0
   with_reducible repeat' first | apply ih0 | apply LeO.refl | apply LeO.none | refine LeO.ite ?_ ?_ | refine LeO.bind ?_ (fun _ => ?_)
theorem frac_Cmp.mono : ∀ a0 a1 a2 a3 a4 a5 k, LeO (frac_Cmp.f k a0 a1 a2 a3 a4 a5) (frac_Cmp.f (k + 1) a0 a1 a2 a3 a4 a5) := by
 intro a0 a1 a2 a3 a4 a5 k
 have ih0 := frac_Cmp.mono_l k
 unfold frac_Cmp.f
 with_reducible repeat' first | apply ih0 | apply LeO.refl | apply LeO.none | refine LeO.ite ?_ ?_ | refine LeO.bind ?_ (fun _ => ?_)
def frac_Cmp.T2 : Bool × List (List Nat × List Nat) := (true, [([], []), ([0], [0]), ([1, 1], [1]), ([], []), ([3, 2], [3]), ([4, 4], [4]), ([2, 5, 5], [2, 5]), ([6, 6, 0, 1, 2, 3, 4, 5, 6], [6])])
def frac_Cmp.B2 : List Nat := [0, 1, 3, 0, 15, 31, 63, 127]
theorem frac_Cmp.tab2 : rtab .any (opsOf Try.f21 2) = frac_Cmp.T2 := by kernel_rfl
theorem frac_Cmp.bits2 : waitsOk frac_Cmp.T2.2 frac_Cmp.B2 = true := by kernel_rfl
def frac_Cmp.T3 : Bool × List (List Nat × List Nat) := (true, [([], []), ([0], [0]), ([], []), ([2], [2]), ([1, 3], [1, 3]), ([], []), ([5], [5]), ([], []), ([7], [7]), ([6, 8, 4], [6, 8]), ([4, 9, 9], [4, 9]), ([10, 10, 0, 1, 2, 3, 4, 5, 6, 7, 8, 9, 10], [10])])
def frac_Cmp.B3 : List Nat := [0, 1, 0, 4, 15, 0, 32, 0, 128, 511, 1023, 2047]
theorem frac_Cmp.tab3 : rtab .any (opsOf Try.f21 3) = frac_Cmp.T3 := by kernel_rfl
theorem frac_Cmp.bits3 : waitsOk frac_Cmp.T3.2 frac_Cmp.B3 = true := by kernel_rfl
set_option maxHeartbeats 8000000 in
set_option maxRecDepth 100000 in
theorem frac_Cmp.calls (k : Nat) (ah : Int) (ai : Int) (ae : Int) (ab : Int) (ac : Int) (af : Int) (r : Int) (w : World) (h : frac_Cmp.f k ah ai ae ab ac af = some r) :
  Calls Try.prog 21 #[.agg #[.int .u64 ah, .int .u64 ai, .int .u64 ae], .agg #[.int .u64 ab, .int .u64 ac, .int .u64 af]] w fun e w' => e = .returned (.int .i64 r) ∧ Below w.heap.size w w' := by
 have ce := Try.underlying32
 have cf := Try.underlying30
 have HB := aaM (Below.refl w.heap.size w)
 have H : ((frac_Right.f ah ai ae).bind fun az => (if az = true then ((frac_Right.f ab ac af).bind fun an => (frac_Cmp.j0 k (!an) ah ai ae ab ac af)) else (frac_Cmp.j0 k true ah ai ae ab ac af))) = some r := h
 clear h
 have a5 := aaM H
 clear H
 go_enter Try.func21, Try.ntmps21
 go_upto_region 1 with (first | ((with_reducible refine gate_dst (N := 2) rfl ?_); refine bxF w HB 2 #[.int .u64 ah, .int .u64 ai, .int .u64 ae] 32 ?_; intro ap hg w4 hb aa HB bj; have cg := bj; clear hb hg) | ((with_reducible refine gate_dst (N := 3) rfl ?_); refine bxF w HB 3 #[.int .u64 ab, .int .u64 ac, .int .u64 af] 32 ?_; intro aq hg w5 hb ag HB bk; have ch := bk; obtain ⟨a7, a8⟩ := nS hg aa; replace aa := bY hb aa; clear hb hg))
 (try simp only [Act.put, ssB, ssZ, ssS])
 go_cut [12] (fun bl wc => ∃ (kq : Nat) (a0 : Bool), bl = .bool a0 ∧ Aside0 (frac_Cmp.j0 kq a0 ah ai ae ab ac af = some r) ∧ Aside0 (kq ≤ k) ∧ Aside0 (wc.heap[ap]? = some (.cells #[.int .u64 ah, .int .u64 ai, .int .u64 ae] 32 (0, 0))) ∧ Aside0 (wc.heap[aq]? = some (.cells #[.int .u64 ab, .int .u64 ac, .int .u64 af] 32 (0, 0))) ∧ Aside0 (Below w.heap.size w wc))
 case first =>
  have H := a5.out; clear a5; replace H := ooB.mp H; obtain ⟨az, a9, H⟩ := H; (try dsimp only at H); have A6 := aaM a9; clear a9
  by_cases c7 : az = true
  ·subst c7
   have H1 : ((frac_Right.f ab ac af).bind fun an => (frac_Cmp.j0 k (!an) ah ai ae ab ac af)) = some r := by rw [if_pos rfl] at H; exact H
   clear H; have H := H1; clear H1; replace H := ooB.mp H; obtain ⟨an, ba, H⟩ := H; (try dsimp only at H); have A8 := aaM ba; clear ba; have H' := aaM H; clear H; have := a7.out; have := a8.out; obtain ⟨bm, bn, bo, bp, bq, br⟩ := bE3 aa.out
   go_wp2_with (first | ((with_reducible refine gate_callee (f := 20) rfl ?_); refine gL (some 6) Try.func20 #[.agg #[.int .u64 ah, .int .u64 ai, .int .u64 ae]] ?_; (with_reducible refine (frac_Right.calls ah ai ae true _ A6.out).mono ?_); rintro e ci ⟨rfl, hb⟩; refine ⟨_, rfl, ?_⟩; replace aa := bY hb aa; replace ag := bY hb ag; replace HB := aaM (lP (lB HB) hb); (try clear hb); obtain ⟨bs, bt, bu, bv, bw, bz⟩ := bE3 ag.out) | (go_at_call 20; (with_reducible refine (frac_Right.calls ab ac af an _ A8.out).mono ?_); rintro e cj ⟨rfl, hb⟩; replace aa := bY hb aa; replace ag := bY hb ag; replace HB := aaM (lP (lB HB) hb); (try clear hb)))
   go_meet
   case rel => exact ⟨_, (!an), (eF), H', ⟨by first | omega | exact Nat.le_refl _⟩, ⟨bZ aa⟩, ⟨bZ ag⟩, ⟨lB HB⟩⟩
  ·replace c7 := Bool.eq_false_iff.mpr c7
   subst c7
   have H1 : (frac_Cmp.j0 k true ah ai ae ab ac af) = some r := by rw [if_neg (show ¬ (false = true) by decide)] at H; exact H
   clear H; have H := H1; clear H1; have H' := aaM H; clear H; have := a7.out; have := a8.out; obtain ⟨b0, b1, b2, b3, b4, b5⟩ := bE3 aa.out
   go_wp2_with (first | ((with_reducible refine gate_callee (f := 20) rfl ?_); refine gL (some 6) Try.func20 #[.agg #[.int .u64 ah, .int .u64 ai, .int .u64 ae]] ?_; (with_reducible refine (frac_Right.calls ah ai ae false _ A6.out).mono ?_); rintro e ck ⟨rfl, hb⟩; refine ⟨_, rfl, ?_⟩; replace aa := bY hb aa; replace ag := bY hb ag; replace HB := aaM (lP (lB HB) hb); (try clear hb)))
   go_meet
   case rel => exact ⟨_, (true), (eF), H', ⟨by first | omega | exact Nat.le_refl _⟩, ⟨bZ aa⟩, ⟨bZ ag⟩, ⟨lB HB⟩⟩
 case rest =>
  clear a5; obtain ⟨kq, a0, rfl, HA, cm, aa, ag, HB⟩ := hcut
  cases kq with
  | zero => exact absurd HA.out (by simp [frac_Cmp.j0])
  | succ cn =>
   have H := HA.out; clear HA; simp only [frac_Cmp.j0] at H
   by_cases a1 : a0 = true
   ·subst a1
    have H1 : ((frac_Right.f ah ai ae).bind fun av => ((frac_rank.f av).bind fun al => ((frac_Right.f ab ac af).bind fun am => ((frac_rank.f am).bind fun aj => ((cmp_Compare_int.f al aj).bind fun ak => (some ak)))))) = some r := by rw [if_pos rfl] at H; exact H
    clear H; have H := H1; clear H1; replace H := ooB.mp H; obtain ⟨av, bb, H⟩ := H; replace H : ((frac_rank.f av).bind fun al => ((frac_Right.f ab ac af).bind fun am => ((frac_rank.f am).bind fun aj => ((cmp_Compare_int.f al aj).bind fun ak => (some ak))))) = some r := H; have b6 := aaM bb; clear bb; replace H := ooB.mp H; obtain ⟨al, bc, H⟩ := H; replace H : ((frac_Right.f ab ac af).bind fun am => ((frac_rank.f am).bind fun aj => ((cmp_Compare_int.f al aj).bind fun ak => (some ak)))) = some r := H; have b7 := aaM bc; clear bc; replace H := ooB.mp H; obtain ⟨am, bd, H⟩ := H; replace H : ((frac_rank.f am).bind fun aj => ((cmp_Compare_int.f al aj).bind fun ak => (some ak))) = some r := H; have b8 := aaM bd; clear bd; replace H := ooB.mp H; obtain ⟨aj, be, H⟩ := H; replace H : ((cmp_Compare_int.f al aj).bind fun ak => (some ak)) = some r := H; have b9 := aaM be; clear be; replace H := ooB.mp H; obtain ⟨ak, bf, H⟩ := H; replace H : (some ak) = some r := H; have ca := aaM bf; clear bf; obtain rfl := Option.some.inj H; (try go_wp2); replace aa := aaM (bD aa.out); replace ag := aaM (bD ag.out); replace HB := aaM (lD HB.out); refine start_ (n := 8) (S := fun w' => w'.cell? ⟨ap, 0, none⟩ = some (.int .u64 ah) ∧ w'.cell? ⟨ap, 1, none⟩ = some (.int .u64 ai) ∧ w'.cell? ⟨ap, 2, none⟩ = some (.int .u64 ae) ∧ w'.cell? ⟨aq, 0, none⟩ = some (.int .u64 ab) ∧ w'.cell? ⟨aq, 1, none⟩ = some (.int .u64 ac) ∧ w'.cell? ⟨aq, 2, none⟩ = some (.int .u64 af)) (ds := []) _ (by kernel_rfl) rfl rfl hD (fun hHeld => ?_); refine with_tabW frac_Cmp.tab2 frac_Cmp.bits2 (fun HT_ HW_ => ?_); generalize wc.drew = cp at aa ag HB hHeld ⊢; refine tU 0 13 (qB 8 1) HT_ HW_ hHeld ?_
    refine tU 3 16 (qB 8 9) HT_ HW_ hHeld ?_
    refine oU 1 (some 14) (qB 8 11) HT_ (fun K hK => ?_); refine gU Try.func20 #[.agg #[.int .u64 ah, .int .u64 ai, .int .u64 ae]] ?_; (with_reducible refine (frac_Right.calls ah ai ae av _ b6.out).mono ?_); rintro e cq ⟨rfl, hb⟩; refine ⟨_, rfl, ?_⟩; replace aa := bY hb aa; replace ag := bY hb ag; replace HB := aaM (lP (lB HB) hb); (try clear hb); refine hK.out _ _ hD (fun hHeld => ?_); clear hK K; refine nU 14 ?_
    refine oU 2 (some 15) (qB 8 15) HT_ (fun K hK => ?_); refine gU Try.func36 #[.bool av] ?_; (with_reducible refine (frac_rank.calls av al _ b7.out).mono ?_); rintro e w' ⟨rfl, ⟨nd, rfl⟩⟩; refine ⟨_, rfl, ?_⟩; refine hK.out _ _ hD (fun hHeld => ?_); clear hK K; refine nU 15 ?_
    refine oU 4 (some 17) (qB 8 31) HT_ (fun K hK => ?_); refine gU Try.func20 #[.agg #[.int .u64 ab, .int .u64 ac, .int .u64 af]] ?_; (with_reducible refine (frac_Right.calls ab ac af am _ b8.out).mono ?_); rintro e cr ⟨rfl, hb⟩; refine ⟨_, rfl, ?_⟩; replace aa := bY hb aa; replace ag := bY hb ag; replace HB := aaM (lP (lB HB) hb); (try clear hb); refine hK.out _ _ hD (fun hHeld => ?_); clear hK K; refine nU 17 ?_
    refine oU 5 (some 18) (qB 8 63) HT_ (fun K hK => ?_); refine gU Try.func36 #[.bool am] ?_; (with_reducible refine (frac_rank.calls am aj _ b9.out).mono ?_); rintro e w' ⟨rfl, ⟨nd, rfl⟩⟩; refine ⟨_, rfl, ?_⟩; refine hK.out _ _ hD (fun hHeld => ?_); clear hK K; refine nU 18 ?_
    refine oU 6 (some 19) (qB 8 127) HT_ (fun K hK => ?_); refine gU Try.func35 #[.int .i64 al, .int .i64 aj] ?_; (with_reducible refine (cmp_Compare_int.calls al aj ak _ ca.out).mono ?_); rintro e w' ⟨rfl, ⟨nd, rfl⟩⟩; refine ⟨_, rfl, ?_⟩; refine hK.out _ _ hD (fun hHeld => ?_); clear hK K; refine nU 19 ?_
    refine pU 7 4 (qB 8 255) HT_ ?_
    refine done_ (done_of HT_.out (by kernel_rfl)) ?_; (try go_wp2)
    all_goals (go_ret; exact ⟨by first | rfl | (simp [errW_none, errW_some] <;> rfl) | (simp [*, errW_none, errW_some] <;> rfl) | (simp_all; done), lB HB⟩)
   ·replace a1 := Bool.eq_false_iff.mpr a1
    subst a1
    have H1 : ((prod_Times.f ah ai af).bind fun a6 => ((prod_Times.f ab ac ae).bind fun au => ((prod_CmpLong.f a6.1 a6.2.1 a6.2.2 au.1 au.2.1 au.2.2).bind fun ao => (some ao)))) = some r := by rw [if_neg (show ¬ (false = true) by decide)] at H; exact H
    clear H; have H := H1; clear H1; replace H := ooB.mp H; obtain ⟨⟨aw, ax, ay⟩, bg, H⟩ := H; replace H : ((prod_Times.f ab ac ae).bind fun au => ((prod_CmpLong.f aw ax ay au.1 au.2.1 au.2.2).bind fun ao => (some ao))) = some r := H; have cb := aaM bg; clear bg; replace H := ooB.mp H; obtain ⟨⟨a2, a3, a4⟩, bh, H⟩ := H; replace H : ((prod_CmpLong.f aw ax ay a2 a3 a4).bind fun ao => (some ao)) = some r := H; have cc := aaM bh; clear bh; replace H := ooB.mp H; obtain ⟨ao, bi, H⟩ := H; replace H : (some ao) = some r := H; have cd := aaM bi; clear bi; obtain rfl := Option.some.inj H; (try go_wp2); replace aa := aaM (bD aa.out); replace ag := aaM (bD ag.out); replace HB := aaM (lD HB.out); refine start_ (n := 12) (S := fun w' => w'.cell? ⟨ap, 0, none⟩ = some (.int .u64 ah) ∧ w'.cell? ⟨ap, 1, none⟩ = some (.int .u64 ai) ∧ w'.cell? ⟨ap, 2, none⟩ = some (.int .u64 ae) ∧ w'.cell? ⟨aq, 0, none⟩ = some (.int .u64 ab) ∧ w'.cell? ⟨aq, 1, none⟩ = some (.int .u64 ac) ∧ w'.cell? ⟨aq, 2, none⟩ = some (.int .u64 af)) (ds := []) _ (by kernel_rfl) rfl rfl hD (fun hHeld => ?_); refine with_tabW frac_Cmp.tab3 frac_Cmp.bits3 (fun HT_ HW_ => ?_); generalize wc.drew = ct at aa ag HB hHeld ⊢; refine pU 0 20 (qB 12 1) HT_ ?_
    refine pU 2 22 (qB 12 5) HT_ ?_
    refine pU 5 25 (qB 12 37) HT_ ?_
    refine pU 7 27 (qB 12 165) HT_ ?_
    refine tU 1 21 (qB 12 167) HT_ HW_ hHeld ?_
    refine tU 3 23 (qB 12 175) HT_ HW_ hHeld ?_
    refine tU 6 26 (qB 12 239) HT_ HW_ hHeld ?_
    refine tU 8 28 (qB 12 495) HT_ HW_ hHeld ?_
    refine oU 4 (some 24) (qB 12 511) HT_ (fun K hK => ?_); refine gU Try.func38 #[.agg #[.int .u64 ah, .int .u64 ai], .int .u64 af] ?_; (with_reducible refine (prod_Times.calls ah ai af aw ax ay _ cb.out).mono ?_); rintro e cu ⟨rfl, hb⟩; refine ⟨_, rfl, ?_⟩; replace aa := bY hb aa; replace ag := bY hb ag; replace HB := aaM (lP (lB HB) hb); (try clear hb); refine hK.out _ _ hD (fun hHeld => ?_); clear hK K; refine nU 24 ?_
    refine oU 9 (some 29) (qB 12 1023) HT_ (fun K hK => ?_); refine gU Try.func38 #[.agg #[.int .u64 ab, .int .u64 ac], .int .u64 ae] ?_; (with_reducible refine (prod_Times.calls ab ac ae a2 a3 a4 _ cc.out).mono ?_); rintro e cv ⟨rfl, hb⟩; refine ⟨_, rfl, ?_⟩; replace aa := bY hb aa; replace ag := bY hb ag; replace HB := aaM (lP (lB HB) hb); (try clear hb); refine hK.out _ _ hD (fun hHeld => ?_); clear hK K; refine nU 29 ?_
    refine oU 10 (some 30) (qB 12 2047) HT_ (fun K hK => ?_); refine gU Try.func37 #[.agg #[.int .u64 aw, .int .u64 ax, .int .u64 ay], .agg #[.int .u64 a2, .int .u64 a3, .int .u64 a4]] ?_; (with_reducible refine (prod_CmpLong.calls aw ax ay a2 a3 a4 ao _ cd.out).mono ?_); rintro e cw ⟨rfl, hb⟩; refine ⟨_, rfl, ?_⟩; replace aa := bY hb aa; replace ag := bY hb ag; replace HB := aaM (lP (lB HB) hb); (try clear hb); refine hK.out _ _ hD (fun hHeld => ?_); clear hK K; refine nU 30 ?_
    refine pU 11 4 (qB 12 4095) HT_ ?_
    refine done_ (done_of HT_.out (by kernel_rfl)) ?_; (try go_wp2)
    all_goals (go_ret; exact ⟨by first | rfl | (simp [errW_none, errW_some] <;> rfl) | (simp [*, errW_none, errW_some] <;> rfl) | (simp_all; done), lB HB⟩)

/-! ### a part of split_Cut -/
section
variable {P : Program} {ops : Array Oper} {Q : Exit → Act → World → Prop}
theorem callMethod_ {T : TypeId} {v : Value} {name : String} {f : FuncId} {fn : Func} (hf : P.funcs[f]? = some fn) (hname : (fn.name == "runtime.NumGoroutine") = false) (hb : fn.body.isSome = true) (args all : Array Value) (hall : #[v] ++ args = all) {w : World}
  (hm : (method (P.types.size + Made.depth) T v name).run P w = .ok (f, v) w) : (callMethod (.iface T v) name args).run P w = .ok (.enter f all) w := by
 subst hall
 simp only [callMethod, Sem.run_bind, run_program, Result.andThen_ok, hm]
 exact enters_ hf hname hb (#[v] ++ args) w
/-- A call through an interface. -/
theorem goesIL_ {T : TypeId} {rest : List Oper} {oi : Oper} {a : Act} {w : World} (N : Option Tmp) (hd : oi.dst = N) (hg : oi.guard = none) {v : Value} {f : FuncId} {fn : Func} {x : Operand} {name : String} {as_ : Array Operand} {ts : Array TypeId} (hf : P.funcs[f]? = some fn) (hname : (fn.name == "runtime.NumGoroutine") = false) (hb : fn.body.isSome = true) (args all : Array Value) (hall : #[v] ++ args = all)
  (hm : (method (P.types.size + Made.depth) T v name).run P w = .ok (f, v) w)
  (hop : oi.op = .call { callee := .invoke x name, args := as_, argTypes := ts }) (hx : a.eval x = .iface T v) (hargs : as_.map a.eval = args)
  (h : Calls P f all w fun e w' => ∃ v, e = .returned v ∧ wpList P ops Q rest (a.put N v) w') : wpList P ops Q (oi :: rest) a w := by
 refine wpList_plain hg fun K hK => ?_
 have he := callMethod_ hf hname hb args all hall hm
 have hrun : (execOp a.eval oi).run P w = .ok (.enter f all) w := by
  have h0 : (#[Value.iface T v] ++ args)[0]? = some (Value.iface T v) := by rw [Array.getElem?_append_left (by simp)]; rfl
  unfold execOp
  simp [hop, resolve, hx, invoke, hargs, h0, he]
 unfold Oper.wp
 rw [hrun, Oper.upon_enter]
 refine h.mono fun e w'' hh => ?_
 obtain ⟨v, rfl, hk⟩ := hh
 subst hd
 exact hK _ _ hk
theorem goesI_ {T : TypeId} {oi : Oper} {N : Option Tmp} {a : Act} {w : World} {K : Act → World → Prop} {v : Value} {f : FuncId} {fn : Func} {x : Operand} {name : String} {as_ : Array Operand} {ts : Array TypeId} (hf : P.funcs[f]? = some fn) (hname : (fn.name == "runtime.NumGoroutine") = false) (hb : fn.body.isSome = true) (args all : Array Value) (hall : #[v] ++ args = all)
  (hm : (method (P.types.size + Made.depth) T v name).run P w = .ok (f, v) w)
  (hw : Region.wanted oi (yielded ops a.tmps) = true) (hN : oi.dst = N) (hop : oi.op = .call { callee := .invoke x name, args := as_, argTypes := ts }) (hx : a.eval x = .iface T v) (hargs : as_.map a.eval = args)
  (h : Calls P f all w fun e w' => ∃ v, e = .returned v ∧ K (a.put N v) w') : if Region.wanted oi (yielded ops a.tmps) = true then Oper.wp P oi a w K Q else K (a.put N undef) w := by
 have he := callMethod_ hf hname hb args all hall hm
 refine call_ f all hw hN ?_ h
 have h0 : (#[Value.iface T v] ++ args)[0]? = some (Value.iface T v) := by rw [Array.getElem?_append_left (by simp)]; rfl
 unfold execOp
 simp [hop, resolve, hx, invoke, hargs, h0, he]
end


/-! ### a part of split_Cut -/
/-- A row of one's own lies in another block than one of another type. -/
theorem split_binsC.row_far {α : Type} {d : Kd α} {e t g base : Nat} {ok : Nat → Prop} {w : World} {v : Value} {xs : List α} {cells : Array Value} (h : d.R e w base ok v xs) (hb : w.heap[g]? = some (.cells cells t (0, 0))) (ht : ∀ q, q ∈ e :: d.E → q ≠ t) (w' : World) (hm : ∀ k, k ≠ g → w'.heap[k]? = w.heap[k]?) : d.R e w' base ok v xs :=
 Kd.R_mono (Kd.R_move (Kd.R_types h hb ht) (fun k hk => hm k hk.2)) (fun k hk => hk.1)
def split_binsC.f (k : Nat) (a0_0 : Int) (a0_1 : Int) (a0_2 : Int) (l0_3 : List Int) (l0_4 : List (S54)) (a1 : Int) (a2 : Int) : Option (List Int × Bool) := (hist_Sum.f k a0_0 a0_1 a0_2 l0_3 l0_4 a1 a2).bind fun z => some (z.1, z.2.2.2.2 == 0)
theorem split_binsC.mono : ∀ a0 a1 a2 a3 a4 a5 a6 k, LeO (split_binsC.f k a0 a1 a2 a3 a4 a5 a6) (split_binsC.f (k + 1) a0 a1 a2 a3 a4 a5 a6) := by
 intro a0 a1 a2 a3 a4 a5 a6 k
 unfold split_binsC.f
 exact LeO.bind (hist_Sum.mono _ _ _ _ _ _ _ _) (fun _ => LeO.refl _)
set_option maxHeartbeats 8000000 in
set_option maxRecDepth 100000 in
theorem split_binsC.calls (k : Nat) (ac : Int) (ae : Int) (af : Int) (ah : Option Addr) (ai : Nat) (aa : List Int) (aj : Option Addr) (ak : Nat) (ab : List (S54)) (a1 : Int) (a2 : Int) (r1 : List Int) (rb : Bool) (w : World) (am : Kd.C (Kd.int .i64) w ah aa.length aa) (an : aa.length ≤ ai) (ao : Kd.C k54 w aj ab.length ab) (ap : ab.length ≤ ak) (hk_ : ac = 0) (h : split_binsC.f k ac ae af aa ab a1 a2 = some (r1, rb)) :
  Calls Try.prog 19 #[.agg #[.int .i64 ac, .int .i64 ae, .int .i64 af, (.slice ah aa.length ai), (.slice aj ab.length ak)], .int .i64 a1, .int .i64 a2] w fun e w' => ∃ aq : Value, e = .returned (.tuple #[.iface 81 (.agg #[aq]), .bool rb]) ∧ Kd.R (Kd.int .i64) 2 w' w.heap.size (fun _ => True) aq r1 ∧ Below w.heap.size w w' := by
 have b1 := Try.underlying25
 have b2 := Try.underlying54
 have ar := aaM am
 have au := aaM an
 have av := aaM ao
 have aw := aaM ap
 have HB := aaM (Below.refl w.heap.size w)
 clear am an ao ap
 have b3 : (ac == 0) = true := beq_iff_eq.mpr hk_
 clear hk_
 have H : ((hist_Sum.f k ac ae af aa ab a1 a2).bind fun z => some (z.1, z.2.2.2.2 == 0)) = some (r1, rb) := h
 clear h
 replace H := ooB.mp H
 obtain ⟨⟨cs, c_, s_, q_, e_⟩, AS_, H⟩ := H
 have AS := aaM AS_
 clear AS_
 simp only [Option.some.injEq, Prod.mk.injEq] at H
 obtain ⟨rfl, rfl⟩ := H
 go_enter Try.func19, Try.ntmps19
 go_wp2_with (first | ((with_reducible refine gate_dst (N := 3) rfl ?_); refine bxE 3 #[.int .i64 ac, .int .i64 ae, .int .i64 af, (.slice ah aa.length ai), (.slice aj ab.length ak)] 25 ?_; intro gh hg w1 hbox hb; have ge_ := aaM (show w.heap.size ≤ gh by rw [hg]; exact lZ (lB HB)); have hb_ := aaM (lP (lB HB) hb); clear HB; have HB := hb_; clear hb_; have BKh := aaM hbox; have GEh := ge_; clear ge_ hg hbox hb; have ax : w1.cell? ⟨gh, 0, none⟩ = some (.int .i64 ac) := (bC BKh.out 0).trans rfl; have ay := bF BKh.out 0; have az : w1.cell? ⟨gh, 1, none⟩ = some (.int .i64 ae) := (bC BKh.out 1).trans rfl; have a0 := bF BKh.out 1; have a3 : w1.cell? ⟨gh, 2, none⟩ = some (.int .i64 af) := (bC BKh.out 2).trans rfl; have a4 := bF BKh.out 2; have a5 : w1.cell? ⟨gh, 3, none⟩ = some ((.slice ah aa.length ai)) := (bC BKh.out 3).trans rfl; have a6 := bF BKh.out 3; have a7 : w1.cell? ⟨gh, 4, none⟩ = some ((.slice aj ab.length ak)) := (bC BKh.out 4).trans rfl; have a8 := bF BKh.out 4) | ((with_reducible refine gate_callee (f := 34) rfl ?_); refine goesL_ (some 15) rfl rfl Try.func34 (by kernel_rfl) rfl #[.agg #[.int .i64 ac, .int .i64 ae, .int .i64 af, (.slice ah aa.length ai), (.slice aj ab.length ak)], .int .i64 a1, .int .i64 a2] rfl (by (try simp only [mmT, mmC, mmN]); first | done | rfl) ?_; (with_reducible refine (hist_Sum.calls k _ _ _ _ _ aa _ _ ab _ _ cs c_ s_ q_ e_ _ ?s1 ?s2 ?s3 ?s4 AS.out).mono ?_); (case s1 => repeat (first | exact (ccB ar.out HB.out) | (with_reducible refine ccA ?_ _) | (with_reducible refine ccN ?_ _) | (with_reducible refine ccD ?_))); (case s2 => exact au.out); (case s3 => repeat (first | exact (ccB av.out HB.out) | (with_reducible refine ccA ?_ _) | (with_reducible refine ccN ?_ _) | (with_reducible refine ccD ?_))); (case s4 => exact aw.out); rintro e w7 ⟨v0, rfl, ho, hb⟩; refine ⟨_, rfl, ?_⟩; obtain ⟨Av, cv, ev_⟩ := Kd.R_slice ho; subst ev_; have mc_ := aaM (Kd.R_lower ho (lZ (lB HB))); have nh_ := aaM (bB (g := gh) (o := .cells #[.int .i64 ac, .int .i64 ae, .int .i64 af, (.slice ah aa.length ai), (.slice aj ab.length ak)] 25 (0, 0)) (bZ BKh) hb); have hb_ := aaM (lP (lB HB) hb); clear BKh HB; have BKh := nh_; have HB := hb_; clear nh_ hb_; have HOc := mc_; clear mc_ ho hb; (try clear ax ay az a0 a3 a4 a5 a6 a7 a8); have a9 : w7.cell? ⟨gh, 0, none⟩ = some (.int .i64 ac) := (bC BKh.out 0).trans rfl; have ba := bF BKh.out 0; have bb : w7.cell? ⟨gh, 1, none⟩ = some (.int .i64 ae) := (bC BKh.out 1).trans rfl; have bc := bF BKh.out 1; have bd : w7.cell? ⟨gh, 2, none⟩ = some (.int .i64 af) := (bC BKh.out 2).trans rfl; have be := bF BKh.out 2; have bf : w7.cell? ⟨gh, 3, none⟩ = some ((.slice ah aa.length ai)) := (bC BKh.out 3).trans rfl; have bg := bF BKh.out 3; have bh : w7.cell? ⟨gh, 4, none⟩ = some ((.slice aj ab.length ak)) := (bC BKh.out 4).trans rfl; have bi := bF BKh.out 4) | ((with_reducible refine gate_dst (N := 9) rfl ?_); refine bxE 9 #[.int .i64 0, .int .i64 0, .int .i64 0] 54 ?_; intro gm hg al hbox hb; have ge_ := aaM (show w.heap.size ≤ gm by rw [hg]; exact lZ (lB HB)); have NBh_m := aaM (show gh ≠ gm by rw [hg]; exact Nat.ne_of_lt (bL (g := gh) (bZ BKh))); have NBm_h := aaM (show gm ≠ gh by rw [hg]; exact Nat.ne_of_gt (bL (g := gh) (bZ BKh))); have nh_ := aaM (bB (g := gh) (o := .cells #[.int .i64 ac, .int .i64 ae, .int .i64 af, (.slice ah aa.length ai), (.slice aj ab.length ak)] 25 (0, 0)) (bZ BKh) hb); have mc_ := aaM (rrB (rZ HOc) hb); have hb_ := aaM (lP (lB HB) hb); clear BKh HOc HB; have BKh := nh_; have HOc := mc_; have HB := hb_; clear nh_ mc_ hb_; have BKm := aaM hbox; have GEm := ge_; clear ge_ hg hbox hb; have nbh_m := NBh_m.out; have nbm_h := NBm_h.out; (try clear a9 ba bb bc bd be bf bg bh bi); have bj : al.cell? ⟨gh, 0, none⟩ = some (.int .i64 ac) := (bC BKh.out 0).trans rfl; have bk := bF BKh.out 0; have bl : al.cell? ⟨gh, 1, none⟩ = some (.int .i64 ae) := (bC BKh.out 1).trans rfl; have bm := bF BKh.out 1; have bn : al.cell? ⟨gh, 2, none⟩ = some (.int .i64 af) := (bC BKh.out 2).trans rfl; have bo := bF BKh.out 2; have bp : al.cell? ⟨gh, 3, none⟩ = some ((.slice ah aa.length ai)) := (bC BKh.out 3).trans rfl; have bq := bF BKh.out 3; have br : al.cell? ⟨gh, 4, none⟩ = some ((.slice aj ab.length ak)) := (bC BKh.out 4).trans rfl; have bs := bF BKh.out 4; have bt : al.cell? ⟨gm, 0, none⟩ = some (.int .i64 0) := (bC BKm.out 0).trans rfl; have bu := bF BKm.out 0; have bv : al.cell? ⟨gm, 1, none⟩ = some (.int .i64 0) := (bC BKm.out 1).trans rfl; have bw := bF BKm.out 1; have bz : al.cell? ⟨gm, 2, none⟩ = some (.int .i64 0) := (bC BKm.out 2).trans rfl; have b0 := bF BKm.out 2) | ((with_reducible refine gate_store (t := 54) (p := 9) rfl ?_); refine store_event (t := 54) (p := 9) (v := ?b4) (w1 := (((al.setCell ⟨gm, 0, none⟩ (.int .i64 c_)).setCell ⟨gm, 1, none⟩ (.int .i64 s_)).setCell ⟨gm, 2, none⟩ (.int .i64 q_))) ?hg ?ho ?hN ?hr ?_; (case ho => rfl); (case hg => rfl); (case hN => rfl); (case hr => first | (go_simp; done) | (go_simp; rfl)); intro ag hw_; have nh_ : Aside0 (ag.heap[gh]? = some (.cells #[.int .i64 ac, .int .i64 ae, .int .i64 af, (.slice ah aa.length ai), (.slice aj ab.length ak)] 25 (0, 0))) := ⟨by rw [hw_]; refine blk_far ?_ NBh_m.out _; refine blk_far ?_ NBh_m.out _; refine blk_far ?_ NBh_m.out _; exact (bZ BKh)⟩; have nm_ : Aside0 (ag.heap[gm]? = some (.cells #[.int .i64 c_, .int .i64 s_, .int .i64 q_] 54 (0, 0))) := ⟨by rw [hw_]; refine blk_put (cs := #[.int .i64 c_, .int .i64 s_, .int .i64 0]) ?_ 2 _ rfl; refine blk_put (cs := #[.int .i64 c_, .int .i64 0, .int .i64 0]) ?_ 1 _ rfl; refine blk_put (cs := #[.int .i64 0, .int .i64 0, .int .i64 0]) ?_ 0 _ rfl; exact (bZ BKm)⟩; have mc_ : Aside0 (Kd.R (Kd.int .i64) 2 ag w.heap.size (fun _ => True) (.slice Av cs.length cv) cs) := ⟨by rw [hw_]; exact row_far (w := al) (rZ HOc) (bZ BKm) (by decide) _ (fun k_ hk_ => by refine (hhS _ _ _ k_ hk_).trans ?_; refine (hhS _ _ _ k_ hk_).trans ?_; refine (hhS _ _ _ k_ hk_).trans ?_; exact rfl)⟩; have hb_ : Aside0 (Below w.heap.size w ag) := ⟨by rw [hw_]; refine lS ?_ GEm.out; refine lS ?_ GEm.out; refine lS ?_ GEm.out; exact (lB HB)⟩; clear BKh BKm HOc HB; have BKh := nh_; have BKm := nm_; have HOc := mc_; have HB := hb_; clear nh_ nm_ mc_ hb_ hw_; (try clear bj bk bl bm bn bo bp bq br bs bt bu bv bw bz b0); have b5 : ag.cell? ⟨gh, 0, none⟩ = some (.int .i64 ac) := (bC BKh.out 0).trans rfl; have b6 := bF BKh.out 0; have b7 : ag.cell? ⟨gh, 1, none⟩ = some (.int .i64 ae) := (bC BKh.out 1).trans rfl; have b8 := bF BKh.out 1; have b9 : ag.cell? ⟨gh, 2, none⟩ = some (.int .i64 af) := (bC BKh.out 2).trans rfl; have ca := bF BKh.out 2; have cb : ag.cell? ⟨gh, 3, none⟩ = some ((.slice ah aa.length ai)) := (bC BKh.out 3).trans rfl; have cc := bF BKh.out 3; have cd : ag.cell? ⟨gh, 4, none⟩ = some ((.slice aj ab.length ak)) := (bC BKh.out 4).trans rfl; have ce := bF BKh.out 4; have cf : ag.cell? ⟨gm, 0, none⟩ = some (.int .i64 c_) := (bC BKm.out 0).trans rfl; have cg := bF BKm.out 0; have ch : ag.cell? ⟨gm, 1, none⟩ = some (.int .i64 s_) := (bC BKm.out 1).trans rfl; have ci := bF BKm.out 1; have cj : ag.cell? ⟨gm, 2, none⟩ = some (.int .i64 q_) := (bC BKm.out 2).trans rfl; have ck := bF BKm.out 2))
 refine bodyPost_ret (results_list (rs := [.tmp 6, .tmp 7]) rfl (by simp) (.tmp (.tmp .nil))) rfl ?_
 exact ⟨_, rfl, HOc.out, HB.out⟩


end Go.Proofs.Ytancajnbjmcamaa.QSplitBest
