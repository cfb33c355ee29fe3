-- Written by a program of this session (wip/tools/mkprint.py over the kit's print); Lean checks it.
import Derived.Test.YtancajnbjmcamaaQSplitBestx0
namespace Go.Proofs.Ytancajnbjmcamaa.QSplitBest
open Go.RowKit Go.Proofs.YtancajnbjmcamaaW.PrintWords Go.Proofs.YtancajnbjmcamaaW.PrintLast Go.Proofs.YtancajnbjmcamaaW.PrintMore
attribute [local go_sem] max2_int min2_int max_two min_two max_three min_three max_four min_four   -- for this text's walks alone
set_option linter.unusedVariables false
set_option linter.unusedSimpArgs false

/-! ### hornbeamlaw16_great: function 12 -/
def hornbeamlaw16_great.l0 : Nat → List (S25) → Int → Int → Option (Bool)
 | 0, _, _, _ => none
 | k + 1, x8, x9, x10 => if x10 < x9 then (if 0 ≤ x10 then (if x10 < (x8.length : Int) then (if (((rd_T25 x8 x10).f3).length : Int) > 100 then (some true) else (if (((rd_T25 x8 x10).f4).length : Int) > 20 then (some true) else (hornbeamlaw16_great.l0 k x8 x9 (wrap64 (x10 + 1))))) else (none)) else (none)) else (some false)
def hornbeamlaw16_great.f (k : Nat) (l0 : List (S25)) : Option (Bool) := if (l0.length : Int) > 8 then (some true) else (hornbeamlaw16_great.l0 k l0 (l0.length : Int) 0)
theorem hornbeamlaw16_great.mono_l : ∀ k, (∀ y0 y1 y2, LeO (hornbeamlaw16_great.l0 k y0 y1 y2) (hornbeamlaw16_great.l0 (k + 1) y0 y1 y2))
 | 0 => fun _ _ _ r h => by simp [hornbeamlaw16_great.l0] at h
 | k + 1 => by
  have ih0 := hornbeamlaw16_great.mono_l k
  ·intro y0 y1 y2
   unfold hornbeamlaw16_great.l0
   with_reducible repeat' first | apply ih0 | apply LeO.refl | apply LeO.none | refine LeO.ite ?_ ?_ | refine LeO.bind ?_ (fun _ => ?_)
theorem hornbeamlaw16_great.mono : ∀ a0 k, LeO (hornbeamlaw16_great.f k a0) (hornbeamlaw16_great.f (k + 1) a0) := by
 intro a0 k
 have ih0 := hornbeamlaw16_great.mono_l k
 unfold hornbeamlaw16_great.f
 with_reducible repeat' first | apply ih0 | apply LeO.refl | apply LeO.none | refine LeO.ite ?_ ?_ | refine LeO.bind ?_ (fun _ => ?_)
set_option maxHeartbeats 8000000 in
set_option maxRecDepth 100000 in
theorem hornbeamlaw16_great.calls (k : Nat) (A0 : Option Addr) (c0 : Nat) (l0 : List (S25)) (r : Bool) (w : World) (ar : Kd.C k25 w A0 l0.length l0) (au : l0.length ≤ c0) (h : hornbeamlaw16_great.f k l0 = some r) :
  Calls Try.prog 12 #[.slice A0 l0.length c0] w fun e w' => e = .returned (.bool r) ∧ Below w.heap.size w w' := by
 have a8 := Try.underlying25
 have aq := aaM ar
 have a9 := aaM au
 clear ar au
 have HB := aaM (Below.refl w.heap.size w)
 have H : (if (l0.length : Int) > 8 then (some true) else (hornbeamlaw16_great.l0 k l0 (l0.length : Int) 0)) = some r := h
 clear h
 by_cases c2 : (l0.length : Int) > 8
 ·rw [if_pos c2] at H
  have c2b0 : decide (8 < (l0.length : Int)) = true := decide_eq_true c2; have c2b1 : decide (8 < l0.length) = true := decide_eq_true (by omega); clear c2; obtain rfl := Option.some.inj H; go_enter Try.func12, Try.ntmps12; go_wp2
  all_goals (go_ret; exact ⟨by first | rfl | (simp [errW_none, errW_some] <;> rfl) | (simp [*, errW_none, errW_some] <;> rfl) | (simp_all; done), lB HB⟩)
 ·rw [if_neg c2] at H
  have c2b0 : decide (8 < (l0.length : Int)) = false := decide_eq_false c2; have c2b1 : decide (8 < l0.length) = false := decide_eq_false (by omega); clear c2; have H' := aaM H; clear H; go_enter Try.func12, Try.ntmps12; go_wp2
  go_loopg [10] k (fun kq a7 w' => ∃ (aa : Int), a7 = .int .i64 aa ∧ Aside0 (hornbeamlaw16_great.l0 kq l0 (l0.length : Int) aa = some r) ∧ Aside0 (kq ≤ k) ∧ Aside0 (Below w.heap.size w w'))
  case atStart => exact ⟨(0), (eF), H', ⟨Nat.le_refl _⟩, ⟨lB HB⟩⟩
  case round =>
   clear H'; (try clear c2); (try clear c2b0); (try clear c2b1); obtain ⟨aa, rfl, HA, av, HB⟩ := hrel
   cases gk with
   | zero => exact absurd HA.out (by simp [hornbeamlaw16_great.l0])
   | succ k1 =>
    have H := HA.out; clear HA; simp only [hornbeamlaw16_great.l0] at H
    by_cases c3 : aa < (l0.length : Int)
    ·rw [if_pos c3] at H
     have c3b0 : decide (aa < (l0.length : Int)) = true := decide_eq_true c3; clear c3
     by_cases c4 : 0 ≤ aa
     ·rw [if_pos c4] at H
      have c4b0 : decide (0 ≤ aa) = true := decide_eq_true c4; clear c4
      by_cases c5 : aa < (l0.length : Int)
      ·rw [if_pos c5] at H
       have c5b0 : decide (aa < (l0.length : Int)) = true := decide_eq_true c5; clear c5
       by_cases c6 : (((rd_T25 l0 aa).f3).length : Int) > 100
       ·rw [if_pos c6] at H
        have c6b0 : decide (100 < (((rd_T25 l0 aa).f3).length : Int)) = true := decide_eq_true c6; have c6b1 : decide (100 < ((rd_T25 l0 aa).f3).length) = true := decide_eq_true (by omega); clear c6; obtain rfl := Option.some.inj H; have ab : 0 ≤ (aa : Int) := of_decide_eq_true (by first | (with_reducible assumption) | assumption); have ac : aa < (l0.length : Int) := of_decide_eq_true (by first | (with_reducible assumption) | assumption); obtain ⟨aw, ax, ay, az, a0, an, ae, af, ag, ah, ai, aj, ak, al, am⟩ := at_T25 aq.out aa ab ac
        cases an
        replace ae := (HB.out.cell (World.block_lt_of_cell? w _ ae)).trans ae; replace af := (HB.out.cell (World.block_lt_of_cell? w _ af)).trans af; replace ag := (HB.out.cell (World.block_lt_of_cell? w _ ag)).trans ag; replace ah := (HB.out.cell (World.block_lt_of_cell? w _ ah)).trans ah; replace ai := (HB.out.cell (World.block_lt_of_cell? w _ ai)).trans ai; have a1 := aaM ak; have a2 := aaM aj; clear ak aj; have a3 := aaM am; have a4 := aaM al; clear am al; replace ab := eq_true ab; replace ac := eq_true ac
        go_wp2_with (first | ((with_reducible refine gate_dst (N := 4) rfl ?_); (try (refine gate_guard (by rfl) ?_; dsimp only)); refine bxF w HB 4 #[.int .i64 0, .int .i64 0, .int .i64 0, .slice none 0 0, .slice none 0 0] 25 ?_; intro a5 hg w7 hb ao HB ap; have a6 := ap; clear hb hg; obtain ⟨_, _, _, _, _, _, _, _, _, _⟩ := bE5 ao.out))
        all_goals (go_ret; exact ⟨by first | rfl | (simp [errW_none, errW_some] <;> rfl) | (simp [*, errW_none, errW_some] <;> rfl) | (simp_all; done), lB HB⟩)
       ·rw [if_neg c6] at H
        have c6b0 : decide (100 < (((rd_T25 l0 aa).f3).length : Int)) = false := decide_eq_false c6; have c6b1 : decide (100 < ((rd_T25 l0 aa).f3).length) = false := decide_eq_false (by omega); clear c6
        by_cases c9 : (((rd_T25 l0 aa).f4).length : Int) > 20
        ·rw [if_pos c9] at H
         have c9b0 : decide (20 < (((rd_T25 l0 aa).f4).length : Int)) = true := decide_eq_true c9; have c9b1 : decide (20 < ((rd_T25 l0 aa).f4).length) = true := decide_eq_true (by omega); clear c9; obtain rfl := Option.some.inj H; have ab : 0 ≤ (aa : Int) := of_decide_eq_true (by first | (with_reducible assumption) | assumption); have ac : aa < (l0.length : Int) := of_decide_eq_true (by first | (with_reducible assumption) | assumption); obtain ⟨aw, ax, ay, az, a0, an, ae, af, ag, ah, ai, aj, ak, al, am⟩ := at_T25 aq.out aa ab ac
         cases an
         replace ae := (HB.out.cell (World.block_lt_of_cell? w _ ae)).trans ae; replace af := (HB.out.cell (World.block_lt_of_cell? w _ af)).trans af; replace ag := (HB.out.cell (World.block_lt_of_cell? w _ ag)).trans ag; replace ah := (HB.out.cell (World.block_lt_of_cell? w _ ah)).trans ah; replace ai := (HB.out.cell (World.block_lt_of_cell? w _ ai)).trans ai; have a1 := aaM ak; have a2 := aaM aj; clear ak aj; have a3 := aaM am; have a4 := aaM al; clear am al; replace ab := eq_true ab; replace ac := eq_true ac
         go_wp2_with (first | ((with_reducible refine gate_dst (N := 4) rfl ?_); (try (refine gate_guard (by rfl) ?_; dsimp only)); refine bxF w HB 4 #[.int .i64 0, .int .i64 0, .int .i64 0, .slice none 0 0, .slice none 0 0] 25 ?_; intro a5 hg ba hb ao HB ap; have a6 := ap; clear hb hg; obtain ⟨_, _, _, _, _, _, _, _, _, _⟩ := bE5 ao.out))
         all_goals (go_ret; exact ⟨by first | rfl | (simp [errW_none, errW_some] <;> rfl) | (simp [*, errW_none, errW_some] <;> rfl) | (simp_all; done), lB HB⟩)
        ·rw [if_neg c9] at H
         have c9b0 : decide (20 < (((rd_T25 l0 aa).f4).length : Int)) = false := decide_eq_false c9; have c9b1 : decide (20 < ((rd_T25 l0 aa).f4).length) = false := decide_eq_false (by omega); clear c9; have H' := aaM H; clear H; have ab : 0 ≤ (aa : Int) := of_decide_eq_true (by first | (with_reducible assumption) | assumption); have ac : aa < (l0.length : Int) := of_decide_eq_true (by first | (with_reducible assumption) | assumption); obtain ⟨aw, ax, ay, az, a0, an, ae, af, ag, ah, ai, aj, ak, al, am⟩ := at_T25 aq.out aa ab ac
         cases an
         replace ae := (HB.out.cell (World.block_lt_of_cell? w _ ae)).trans ae; replace af := (HB.out.cell (World.block_lt_of_cell? w _ af)).trans af; replace ag := (HB.out.cell (World.block_lt_of_cell? w _ ag)).trans ag; replace ah := (HB.out.cell (World.block_lt_of_cell? w _ ah)).trans ah; replace ai := (HB.out.cell (World.block_lt_of_cell? w _ ai)).trans ai; have a1 := aaM ak; have a2 := aaM aj; clear ak aj; have a3 := aaM am; have a4 := aaM al; clear am al; replace ab := eq_true ab; replace ac := eq_true ac
         go_wp2_with (first | ((with_reducible refine gate_dst (N := 4) rfl ?_); (try (refine gate_guard (by rfl) ?_; dsimp only)); refine bxF w HB 4 #[.int .i64 0, .int .i64 0, .int .i64 0, .slice none 0 0, .slice none 0 0] 25 ?_; intro a5 hg bb hb ao HB ap; have a6 := ap; clear hb hg; obtain ⟨_, _, _, _, _, _, _, _, _, _⟩ := bE5 ao.out))
         go_roundg k1
         case measure => have := av.out; omega
         case rel => exact ⟨(wrap64 (aa + 1)), (eF), H', ⟨by have := av.out; omega⟩, ⟨lB HB⟩⟩
      ·rw [if_neg c5] at H
       exact absurd H (by simp)
     ·rw [if_neg c4] at H
      exact absurd H (by simp)
    ·rw [if_neg c3] at H
     have c3b0 : decide (aa < (l0.length : Int)) = false := decide_eq_false c3; clear c3; obtain rfl := Option.some.inj H; go_wp2
     all_goals (go_ret; exact ⟨by first | rfl | (simp [errW_none, errW_some] <;> rfl) | (simp [*, errW_none, errW_some] <;> rfl) | (simp_all; done), lB HB⟩)

/-! ### hornbeamref12_May: function 28 -/
def hornbeamref12_May.j0 : Nat → Int → Int → Bool → Option (Bool)
 | 0, _, _, _ => none
 | k + 1, x0, x2, x12 => if x12 = true then (some false) else (if x0 = 0 then (if x2 ≥ 2 then (some (decide (x2 ≤ 256))) else (some false)) else (if x0 = 1 then (some (x2 == 0)) else (some false)))
def hornbeamref12_May.f (k : Nat) (a0 : Int) (a1 : Int) (a2 : Int) : Option (Bool) := if a1 < 1 then (hornbeamref12_May.j0 k a0 a2 true) else (hornbeamref12_May.j0 k a0 a2 (decide (a1 > 257)))
theorem hornbeamref12_May.mono_l : ∀ k, (∀ y0 y1 y2, LeO (hornbeamref12_May.j0 k y0 y1 y2) (hornbeamref12_May.j0 (k + 1) y0 y1 y2))
 | 0 => fun _ _ _ r h => by simp [hornbeamref12_May.j0] at h
 | k + 1 => by
  have ih0 := hornbeamref12_May.mono_l k
  ·intro y0 y1 y2
   unfold hornbeamref12_May.j0
   with_reducible repeat' first | apply ih0 | apply LeO.refl | apply LeO.none | refine LeO.ite ?_ ?_ | refine LeO.bind ?_ (fun _ => ?_)
theorem hornbeamref12_May.mono : ∀ a0 a1 a2 k, LeO (hornbeamref12_May.f k a0 a1 a2) (hornbeamref12_May.f (k + 1) a0 a1 a2) := by
 intro a0 a1 a2 k
 have ih0 := hornbeamref12_May.mono_l k
 unfold hornbeamref12_May.f
 with_reducible repeat' first | apply ih0 | apply LeO.refl | apply LeO.none | refine LeO.ite ?_ ?_ | refine LeO.bind ?_ (fun _ => ?_)
set_option maxHeartbeats 8000000 in
set_option maxRecDepth 100000 in
theorem hornbeamref12_May.calls (k : Nat) (a0 : Int) (a1 : Int) (a2 : Int) (r : Bool) (w : World) (h : hornbeamref12_May.f k a0 a1 a2 = some r) :
  Calls Try.prog 28 #[.int .i64 a0, .int .i64 a1, .int .i64 a2] w fun e w' => e = .returned (.bool r) ∧ Drawn0 w w' := by
 have H : (if a1 < 1 then (hornbeamref12_May.j0 k a0 a2 true) else (hornbeamref12_May.j0 k a0 a2 (decide (a1 > 257)))) = some r := h
 clear h
 have ab := aaM H
 clear H
 go_enter Try.func28, Try.ntmps28
 go_upto_region 1 with (fail)
 go_cut [12] (fun ac wc => ∃ (kq : Nat) (aa : Bool), ac = .bool aa ∧ Aside0 (hornbeamref12_May.j0 kq a0 a2 aa = some r) ∧ Aside0 (kq ≤ k) ∧ Drawn0 w wc)
 case first =>
  have H := ab.out; clear ab
  by_cases c5 : a1 < 1
  ·rw [if_pos c5] at H
   have c5b0 : decide (a1 < 1) = true := decide_eq_true c5; clear c5; (first | rw [c5b0] | (simp only [i64_w, i32_w]; rw [c5b0]) | skip); have H' := aaM H; clear H; go_wp2
   go_meet
   case rel => exact ⟨_, (true), (eF), H', ⟨by first | omega | exact Nat.le_refl _⟩, by repeat (first | exact Drawn0.refl _ | apply Drawn0.step)⟩
  ·rw [if_neg c5] at H
   have c5b0 : decide (a1 < 1) = false := decide_eq_false c5; clear c5; (first | rw [c5b0] | (simp only [i64_w, i32_w]; rw [c5b0]) | skip); have H' := aaM H; clear H; go_wp2
   go_meet
   case rel => exact ⟨_, (decide (a1 > 257)), (eF), H', ⟨by first | omega | exact Nat.le_refl _⟩, by repeat (first | exact Drawn0.refl _ | apply Drawn0.step)⟩
 case rest =>
  clear ab; obtain ⟨kq, aa, rfl, HA, ae, ⟨af, rfl⟩⟩ := hcut
  cases kq with
  | zero => exact absurd HA.out (by simp [hornbeamref12_May.j0])
  | succ ag =>
   have H := HA.out; clear HA; simp only [hornbeamref12_May.j0] at H
   by_cases c6 : aa = true
   ·subst c6
    have H1 : (some false) = some r := by rw [if_pos rfl] at H; exact H
    clear H; have H := H1; clear H1; obtain rfl := Option.some.inj H; go_wp2
    all_goals (go_ret; exact ⟨eF, by repeat (first | exact Drawn0.refl _ | apply Drawn0.step)⟩)
   ·replace c6 := Bool.eq_false_iff.mpr c6
    subst c6
    have H1 : (if a0 = 0 then (if a2 ≥ 2 then (some (decide (a2 ≤ 256))) else (some false)) else (if a0 = 1 then (some (a2 == 0)) else (some false))) = some r := by rw [if_neg (show ¬ (false = true) by decide)] at H; exact H
    clear H; have H := H1; clear H1
    by_cases c7 : a0 = 0
    ·rw [if_pos c7] at H
     have c7b0 : (a0 == 0) = true := beq_iff_eq.mpr c7; have c7b1 : (a0 != 0) = false := bne_eq_false_iff_eq.mpr c7; clear c7
     by_cases c8 : a2 ≥ 2
     ·rw [if_pos c8] at H
      have c8b0 : decide (2 ≤ a2) = true := decide_eq_true c8; clear c8; obtain rfl := Option.some.inj H; go_wp2
      all_goals (go_ret; exact ⟨eF, by repeat (first | exact Drawn0.refl _ | apply Drawn0.step)⟩)
     ·rw [if_neg c8] at H
      have c8b0 : decide (2 ≤ a2) = false := decide_eq_false c8; clear c8; obtain rfl := Option.some.inj H; go_wp2
      all_goals (go_ret; exact ⟨eF, by repeat (first | exact Drawn0.refl _ | apply Drawn0.step)⟩)
    ·rw [if_neg c7] at H
     have c7b0 : (a0 == 0) = false := beq_eq_false_iff_ne.mpr c7; have c7b1 : (a0 != 0) = true := bne_iff_ne.mpr c7
     by_cases c9 : a0 = 1
     ·rw [if_pos c9] at H
      have c9b0 : (a0 == 1) = true := beq_iff_eq.mpr c9; have c9b1 : (a0 != 1) = false := bne_eq_false_iff_eq.mpr c9; clear c9; obtain rfl := Option.some.inj H; go_wp2
      all_goals (go_ret; exact ⟨eF, by repeat (first | exact Drawn0.refl _ | apply Drawn0.step)⟩)
     ·rw [if_neg c9] at H
      have c9b0 : (a0 == 1) = false := beq_eq_false_iff_ne.mpr c9; have c9b1 : (a0 != 1) = true := bne_iff_ne.mpr c9; obtain rfl := Option.some.inj H; go_wp2
      all_goals (go_ret; exact ⟨eF, by repeat (first | exact Drawn0.refl _ | apply Drawn0.step)⟩)

/-! ### hornbeamref12_Right: function 15 -/
def hornbeamref12_Right.f (k : Nat) (a0_0 : Int) (a0_1 : Int) (a0_2 : Int) (l0_3 : List Int) (l0_4 : List (S54)) : Option (Bool) := (hornbeamref12_May.f k a0_0 a0_1 a0_2).bind fun t302 => (if t302 = true then (if a0_0 = 0 then (if (l0_3.length : Int) = (wrap64 (a0_1 * a0_2)) then (some ((l0_4.length : Int) == 0)) else (some false)) else (if (l0_3.length : Int) = 0 then (some ((l0_4.length : Int) == a0_1)) else (some false))) else (some false))
theorem hornbeamref12_Right.mono : ∀ a0 a1 a2 a3 a4 k, LeO (hornbeamref12_Right.f k a0 a1 a2 a3 a4) (hornbeamref12_Right.f (k + 1) a0 a1 a2 a3 a4) := by
 intro a0 a1 a2 a3 a4 k
 unfold hornbeamref12_Right.f
 with_reducible repeat' first | apply hornbeamref12_May.mono | apply LeO.refl | apply LeO.none | refine LeO.ite ?_ ?_ | refine LeO.bind ?_ (fun _ => ?_)
set_option maxHeartbeats 8000000 in
set_option maxRecDepth 100000 in
theorem hornbeamref12_Right.calls (k : Nat) (ac : Int) (aa : Int) (ae : Int) (aj : Option Addr) (ak : Nat) (ab : List Int) (al : Option Addr) (am : Nat) (af : List (S54)) (r : Bool) (w : World) (aq : Kd.C (Kd.int .i64) w aj ab.length ab) (ar : ab.length ≤ ak) (au : Kd.C k54 w al af.length af) (av : af.length ≤ am) (h : hornbeamref12_Right.f k ac aa ae ab af = some r) :
  Calls Try.prog 15 #[.agg #[.int .i64 ac, .int .i64 aa, .int .i64 ae, .slice aj ab.length ak, .slice al af.length am]] w fun e w' => e = .returned (.bool r) ∧ Below w.heap.size w w' := by
 have ax := Try.underlying25
 have ay := aaM aq
 have az := aaM ar
 clear aq ar
 have a0 := aaM au
 have a1 := aaM av
 clear au av
 have HB := aaM (Below.refl w.heap.size w)
 have H : ((hornbeamref12_May.f k ac aa ae).bind fun an => (if an = true then (if ac = 0 then (if (ab.length : Int) = (wrap64 (aa * ae)) then (some ((af.length : Int) == 0)) else (some false)) else (if (ab.length : Int) = 0 then (some ((af.length : Int) == aa)) else (some false))) else (some false))) = some r := h
 clear h
 replace H := ooB.mp H
 obtain ⟨an, aw, H⟩ := H
 (try dsimp only at H)
 have A2 := aaM aw
 clear aw
 by_cases c3 : an = true
 ·subst c3
  have H1 : (if ac = 0 then (if (ab.length : Int) = (wrap64 (aa * ae)) then (some ((af.length : Int) == 0)) else (some false)) else (if (ab.length : Int) = 0 then (some ((af.length : Int) == aa)) else (some false))) = some r := by rw [if_pos rfl] at H; exact H
  clear H; have H := H1; clear H1
  by_cases c4 : ac = 0
  ·rw [if_pos c4] at H
   have c4b0 : (ac == 0) = true := beq_iff_eq.mpr c4; have c4b1 : (ac != 0) = false := bne_eq_false_iff_eq.mpr c4; clear c4
   by_cases c5 : (ab.length : Int) = (wrap64 (aa * ae))
   ·rw [if_pos c5] at H
    have c5b0 : ((ab.length : Int) == (wrap64 (aa * ae))) = true := beq_iff_eq.mpr c5; have c5b1 : ((ab.length : Int) != (wrap64 (aa * ae))) = false := bne_eq_false_iff_eq.mpr c5; clear c5; obtain rfl := Option.some.inj H; go_enter Try.func15, Try.ntmps15
    go_wp2_with (first | ((with_reducible refine gate_dst (N := 1) rfl ?_); (try (refine gate_guard (by rfl) ?_; dsimp only)); refine bxF w HB 1 #[.int .i64 ac, .int .i64 aa, .int .i64 ae, .slice aj ab.length ak, .slice al af.length am] 25 ?_; intro ao hg w6 hb ag HB ah; have ap := ah; clear hb hg; obtain ⟨_, _, _, _, _, _, _, _, _, _⟩ := bE5 ag.out) | ((with_reducible refine gate_callee (f := 28) rfl ?_); refine gL (some 9) Try.func28 #[.int .i64 ac, .int .i64 aa, .int .i64 ae] ?_; (with_reducible refine (hornbeamref12_May.calls k ac aa ae true _ A2.out).mono ?_); rintro e w' ⟨rfl, ⟨nd, rfl⟩⟩; refine ⟨_, rfl, ?_⟩))
    all_goals (go_ret; exact ⟨by first | rfl | (simp [errW_none, errW_some] <;> rfl) | (simp [*, errW_none, errW_some] <;> rfl) | (simp_all; done), lB HB⟩)
   ·rw [if_neg c5] at H
    have c5b0 : ((ab.length : Int) == (wrap64 (aa * ae))) = false := beq_eq_false_iff_ne.mpr c5; have c5b1 : ((ab.length : Int) != (wrap64 (aa * ae))) = true := bne_iff_ne.mpr c5; obtain rfl := Option.some.inj H; go_enter Try.func15, Try.ntmps15
    go_wp2_with (first | ((with_reducible refine gate_dst (N := 1) rfl ?_); (try (refine gate_guard (by rfl) ?_; dsimp only)); refine bxF w HB 1 #[.int .i64 ac, .int .i64 aa, .int .i64 ae, .slice aj ab.length ak, .slice al af.length am] 25 ?_; intro ao hg w8 hb ag HB ah; have ap := ah; clear hb hg; obtain ⟨_, _, _, _, _, _, _, _, _, _⟩ := bE5 ag.out) | ((with_reducible refine gate_callee (f := 28) rfl ?_); refine gL (some 9) Try.func28 #[.int .i64 ac, .int .i64 aa, .int .i64 ae] ?_; (with_reducible refine (hornbeamref12_May.calls k ac aa ae true _ A2.out).mono ?_); rintro e w' ⟨rfl, ⟨nd, rfl⟩⟩; refine ⟨_, rfl, ?_⟩))
    all_goals (go_ret; exact ⟨by first | rfl | (simp [errW_none, errW_some] <;> rfl) | (simp [*, errW_none, errW_some] <;> rfl) | (simp_all; done), lB HB⟩)
  ·rw [if_neg c4] at H
   have c4b0 : (ac == 0) = false := beq_eq_false_iff_ne.mpr c4; have c4b1 : (ac != 0) = true := bne_iff_ne.mpr c4
   by_cases ai : (ab.length : Int) = 0
   ·rw [if_pos ai] at H
    have c10b0 : ((ab.length : Int) == 0) = true := beq_iff_eq.mpr ai; have c10b1 : ((ab.length : Int) != 0) = false := bne_eq_false_iff_eq.mpr ai; clear ai; obtain rfl := Option.some.inj H; go_enter Try.func15, Try.ntmps15
    go_wp2_with (first | ((with_reducible refine gate_dst (N := 1) rfl ?_); (try (refine gate_guard (by rfl) ?_; dsimp only)); refine bxF w HB 1 #[.int .i64 ac, .int .i64 aa, .int .i64 ae, .slice aj ab.length ak, .slice al af.length am] 25 ?_; intro ao hg a2 hb ag HB ah; have ap := ah; clear hb hg; obtain ⟨_, _, _, _, _, _, _, _, _, _⟩ := bE5 ag.out) | ((with_reducible refine gate_callee (f := 28) rfl ?_); refine gL (some 9) Try.func28 #[.int .i64 ac, .int .i64 aa, .int .i64 ae] ?_; (with_reducible refine (hornbeamref12_May.calls k ac aa ae true _ A2.out).mono ?_); rintro e w' ⟨rfl, ⟨nd, rfl⟩⟩; refine ⟨_, rfl, ?_⟩))
    all_goals (go_ret; exact ⟨by first | rfl | (simp [errW_none, errW_some] <;> rfl) | (simp [*, errW_none, errW_some] <;> rfl) | (simp_all; done), lB HB⟩)
   ·rw [if_neg ai] at H
    have c10b0 : ((ab.length : Int) == 0) = false := beq_eq_false_iff_ne.mpr ai; have c10b1 : ((ab.length : Int) != 0) = true := bne_iff_ne.mpr ai
    have c10b2 : ¬ (ab = []) := fun h_ => ai (by rw [h_]; rfl)
    obtain rfl := Option.some.inj H; go_enter Try.func15, Try.ntmps15
    go_wp2_with (first | ((with_reducible refine gate_dst (N := 1) rfl ?_); (try (refine gate_guard (by rfl) ?_; dsimp only)); refine bxF w HB 1 #[.int .i64 ac, .int .i64 aa, .int .i64 ae, .slice aj ab.length ak, .slice al af.length am] 25 ?_; intro ao hg a3 hb ag HB ah; have ap := ah; clear hb hg; obtain ⟨_, _, _, _, _, _, _, _, _, _⟩ := bE5 ag.out) | ((with_reducible refine gate_callee (f := 28) rfl ?_); refine gL (some 9) Try.func28 #[.int .i64 ac, .int .i64 aa, .int .i64 ae] ?_; (with_reducible refine (hornbeamref12_May.calls k ac aa ae true _ A2.out).mono ?_); rintro e w' ⟨rfl, ⟨nd, rfl⟩⟩; refine ⟨_, rfl, ?_⟩))
    all_goals (go_ret; exact ⟨by first | rfl | (simp [errW_none, errW_some] <;> rfl) | (simp [*, errW_none, errW_some] <;> rfl) | (simp_all; done), lB HB⟩)
 ·replace c3 := Bool.eq_false_iff.mpr c3
  subst c3
  have H1 : (some false) = some r := by rw [if_neg (show ¬ (false = true) by decide)] at H; exact H
  clear H; have H := H1; clear H1; obtain rfl := Option.some.inj H; go_enter Try.func15, Try.ntmps15
  go_wp2_with (first | ((with_reducible refine gate_dst (N := 1) rfl ?_); (try (refine gate_guard (by rfl) ?_; dsimp only)); refine bxF w HB 1 #[.int .i64 ac, .int .i64 aa, .int .i64 ae, .slice aj ab.length ak, .slice al af.length am] 25 ?_; intro ao hg a4 hb ag HB ah; have ap := ah; clear hb hg; obtain ⟨_, _, _, _, _, _, _, _, _, _⟩ := bE5 ag.out) | ((with_reducible refine gate_callee (f := 28) rfl ?_); refine gL (some 9) Try.func28 #[.int .i64 ac, .int .i64 aa, .int .i64 ae] ?_; (with_reducible refine (hornbeamref12_May.calls k ac aa ae false _ A2.out).mono ?_); rintro e w' ⟨rfl, ⟨nd, rfl⟩⟩; refine ⟨_, rfl, ?_⟩))
  all_goals (go_ret; exact ⟨by first | rfl | (simp [errW_none, errW_some] <;> rfl) | (simp [*, errW_none, errW_some] <;> rfl) | (simp_all; done), lB HB⟩)

/-! ### hornbeamref04_Compare: function 29 -/
def hornbeamref04_Compare.l0 : Nat → List Int → List Int → Int → Option (Int)
 | 0, _, _, _ => none
 | k + 1, x0, x1, x5 => if x5 ≥ 0 then (if 0 ≤ x5 then (if x5 < (x0.length : Int) then (if x5 < (x1.length : Int) then (if (rd x0 x5) < (rd x1 x5) then (some (-1)) else (if (rd x0 x5) > (rd x1 x5) then (some 1) else (hornbeamref04_Compare.l0 k x0 x1 (wrap64 (x5 - 1))))) else (none)) else (none)) else (none)) else (some 0)
def hornbeamref04_Compare.f (k : Nat) (l0 : List Int) (l1 : List Int) : Option (Int) := hornbeamref04_Compare.l0 k l0 l1 (wrap64 ((l0.length : Int) - 1))
theorem hornbeamref04_Compare.mono_l : ∀ k, (∀ y0 y1 y2, LeO (hornbeamref04_Compare.l0 k y0 y1 y2) (hornbeamref04_Compare.l0 (k + 1) y0 y1 y2))
 | 0 => fun _ _ _ r h => by simp [hornbeamref04_Compare.l0] at h
 | k + 1 => by
  have ih0 := hornbeamref04_Compare.mono_l k
  ·intro y0 y1 y2
   unfold hornbeamref04_Compare.l0
   with_reducible repeat' first | apply ih0 | apply LeO.refl | apply LeO.none | refine LeO.ite ?_ ?_ | refine LeO.bind ?_ (fun _ => ?_)
theorem hornbeamref04_Compare.mono : ∀ a0 a1 k, LeO (hornbeamref04_Compare.f k a0 a1) (hornbeamref04_Compare.f (k + 1) a0 a1) := by
 intro a0 a1 k
 have ih0 := hornbeamref04_Compare.mono_l k
 unfold hornbeamref04_Compare.f
 with_reducible repeat' first | apply ih0 | apply LeO.refl | apply LeO.none | refine LeO.ite ?_ ?_ | refine LeO.bind ?_ (fun _ => ?_)
set_option maxHeartbeats 8000000 in
set_option maxRecDepth 100000 in
theorem hornbeamref04_Compare.calls (k : Nat) (A0 : Option Addr) (c0 : Nat) (l0 : List Int) (A1 : Option Addr) (c1 : Nat) (l1 : List Int) (r : Int) (w : World) (aw : Kd.C (Kd.int .u64) w A0 l0.length l0) (ax : l0.length ≤ c0) (ay : Kd.C (Kd.int .u64) w A1 l1.length l1) (az : l1.length ≤ c1) (h : hornbeamref04_Compare.f k l0 l1 = some r) :
  Calls Try.prog 29 #[.slice A0 l0.length c0, .slice A1 l1.length c1] w fun e w' => e = .returned (.int .i64 r) ∧ Drawn0 w w' := by
 have ak := aaM aw
 have a5 := aaM ax
 clear aw ax
 have al := aaM ay
 have a6 := aaM az
 clear ay az
 have H : (hornbeamref04_Compare.l0 k l0 l1 (wrap64 ((l0.length : Int) - 1))) = some r := h
 clear h
 have H' := aaM H
 clear H
 go_enter Try.func29, Try.ntmps29
 go_wp2
 repeat (go_quiet (fail); try go_wp2)
 go_loopg [5] k (fun kq v5 w' => ∃ (aa : Int), v5 = .int .i64 aa ∧ Aside0 (hornbeamref04_Compare.l0 kq l0 l1 aa = some r) ∧ Aside0 (kq ≤ k) ∧ Drawn0 w w')
 case atStart => exact ⟨(wrap64 ((l0.length : Int) - 1)), (eF), H', ⟨Nat.le_refl _⟩, by repeat (first | exact Drawn0.refl _ | apply Drawn0.step)⟩
 case round =>
  clear H'; (try clear c1); obtain ⟨aa, rfl, HA, a0, ⟨m1, rfl⟩⟩ := hrel
  cases gk with
  | zero => exact absurd HA.out (by simp [hornbeamref04_Compare.l0])
  | succ k1 =>
   have H := HA.out; clear HA; simp only [hornbeamref04_Compare.l0] at H
   by_cases c3 : aa ≥ 0
   ·rw [if_pos c3] at H
    have c3b0 : decide (0 ≤ aa) = true := decide_eq_true c3; clear c3
    by_cases c4 : 0 ≤ aa
    ·rw [if_pos c4] at H
     have c4b0 : decide (0 ≤ aa) = true := decide_eq_true c4; clear c4
     by_cases c5 : aa < (l0.length : Int)
     ·rw [if_pos c5] at H
      have c5b0 : decide (aa < (l0.length : Int)) = true := decide_eq_true c5; clear c5
      by_cases c6 : aa < (l1.length : Int)
      ·rw [if_pos c6] at H
       have c6b0 : decide (aa < (l1.length : Int)) = true := decide_eq_true c6; clear c6
       by_cases c7 : (rd l0 aa) < (rd l1 aa)
       ·rw [if_pos c7] at H
        have c7b0 : decide ((rd l0 aa) < (rd l1 aa)) = true := decide_eq_true c7; clear c7; obtain rfl := Option.some.inj H; have ab : 0 ≤ (aa : Int) := of_decide_eq_true (by first | (with_reducible assumption) | assumption); have ac : aa < (l0.length : Int) := of_decide_eq_true (by first | (with_reducible assumption) | assumption); obtain ⟨ao, am, a1⟩ := Kd.at_int ak.out aa ab ac
        cases am
        replace ab := eq_true ab; replace ac := eq_true ac; have ae : 0 ≤ (aa : Int) := of_decide_eq_true (by first | (with_reducible assumption) | assumption); have af : aa < (l1.length : Int) := of_decide_eq_true (by first | (with_reducible assumption) | assumption); obtain ⟨ap, an, a2⟩ := Kd.at_int al.out aa ae af
        cases an
        replace ae := eq_true ae; replace af := eq_true af; go_wp2
        repeat (go_quiet (fail); try go_wp2)
        all_goals (go_ret; exact ⟨eF, by repeat (first | exact Drawn0.refl _ | apply Drawn0.step)⟩)
       ·rw [if_neg c7] at H
        have c7b0 : decide ((rd l0 aa) < (rd l1 aa)) = false := decide_eq_false c7; clear c7
        by_cases c8 : (rd l0 aa) > (rd l1 aa)
        ·rw [if_pos c8] at H
         have c8b0 : decide ((rd l1 aa) < (rd l0 aa)) = true := decide_eq_true c8; clear c8; obtain rfl := Option.some.inj H; have ab : 0 ≤ (aa : Int) := of_decide_eq_true (by first | (with_reducible assumption) | assumption); have ac : aa < (l0.length : Int) := of_decide_eq_true (by first | (with_reducible assumption) | assumption); obtain ⟨ao, am, a1⟩ := Kd.at_int ak.out aa ab ac
         cases am
         replace ab := eq_true ab; replace ac := eq_true ac; have ae : 0 ≤ (aa : Int) := of_decide_eq_true (by first | (with_reducible assumption) | assumption); have af : aa < (l1.length : Int) := of_decide_eq_true (by first | (with_reducible assumption) | assumption); obtain ⟨ap, an, a2⟩ := Kd.at_int al.out aa ae af
         cases an
         replace ae := eq_true ae; replace af := eq_true af; have ag : 0 ≤ (aa : Int) := of_decide_eq_true (by first | (with_reducible assumption) | assumption); have ah : aa < (l0.length : Int) := of_decide_eq_true (by first | (with_reducible assumption) | assumption); obtain ⟨aq, ar, a3⟩ := Kd.at_int ak.out aa ag ah; obtain rfl : ao = aq := (by injection ar); replace ag := eq_true ag; replace ah := eq_true ah; have ai : 0 ≤ (aa : Int) := of_decide_eq_true (by first | (with_reducible assumption) | assumption); have aj : aa < (l1.length : Int) := of_decide_eq_true (by first | (with_reducible assumption) | assumption); obtain ⟨au, av, a4⟩ := Kd.at_int al.out aa ai aj; obtain rfl : ap = au := (by injection av); replace ai := eq_true ai; replace aj := eq_true aj; go_wp2
         repeat (go_quiet (fail); try go_wp2)
         all_goals (go_ret; exact ⟨eF, by repeat (first | exact Drawn0.refl _ | apply Drawn0.step)⟩)
        ·rw [if_neg c8] at H
         have c8b0 : decide ((rd l1 aa) < (rd l0 aa)) = false := decide_eq_false c8; clear c8; have H' := aaM H; clear H; have ab : 0 ≤ (aa : Int) := of_decide_eq_true (by first | (with_reducible assumption) | assumption); have ac : aa < (l0.length : Int) := of_decide_eq_true (by first | (with_reducible assumption) | assumption); obtain ⟨ao, am, a1⟩ := Kd.at_int ak.out aa ab ac
         cases am
         replace ab := eq_true ab; replace ac := eq_true ac; have ae : 0 ≤ (aa : Int) := of_decide_eq_true (by first | (with_reducible assumption) | assumption); have af : aa < (l1.length : Int) := of_decide_eq_true (by first | (with_reducible assumption) | assumption); obtain ⟨ap, an, a2⟩ := Kd.at_int al.out aa ae af
         cases an
         replace ae := eq_true ae; replace af := eq_true af; have ag : 0 ≤ (aa : Int) := of_decide_eq_true (by first | (with_reducible assumption) | assumption); have ah : aa < (l0.length : Int) := of_decide_eq_true (by first | (with_reducible assumption) | assumption); obtain ⟨aq, ar, a3⟩ := Kd.at_int ak.out aa ag ah; obtain rfl : ao = aq := (by injection ar); replace ag := eq_true ag; replace ah := eq_true ah; have ai : 0 ≤ (aa : Int) := of_decide_eq_true (by first | (with_reducible assumption) | assumption); have aj : aa < (l1.length : Int) := of_decide_eq_true (by first | (with_reducible assumption) | assumption); obtain ⟨au, av, a4⟩ := Kd.at_int al.out aa ai aj; obtain rfl : ap = au := (by injection av); replace ai := eq_true ai; replace aj := eq_true aj; go_wp2
         repeat (go_quiet (fail); try go_wp2)
         go_roundg k1
         case measure => have := a0.out; omega
         case rel => exact ⟨(wrap64 (aa - 1)), (eF), H', ⟨by have := a0.out; omega⟩, by repeat (first | exact Drawn0.refl _ | apply Drawn0.step)⟩
      ·rw [if_neg c6] at H
       exact absurd H (by simp)
     ·rw [if_neg c5] at H
      exact absurd H (by simp)
    ·rw [if_neg c4] at H
     exact absurd H (by simp)
   ·rw [if_neg c3] at H
    have c3b0 : decide (0 ≤ aa) = false := decide_eq_false c3; clear c3; obtain rfl := Option.some.inj H; go_wp2
    repeat (go_quiet (fail); try go_wp2)
    all_goals (go_ret; exact ⟨eF, by repeat (first | exact Drawn0.refl _ | apply Drawn0.step)⟩)

/-! ### hornbeamref04_Product: function 30 -/
mutual
def hornbeamref04_Product.l0 : Nat → List Int → List Int → List Int → Int → Option (List Int)
 | 0, _, _, _, _ => none
 | k + 1, x0, x1, x5, x6 => if x6 < (x0.length : Int) then (hornbeamref04_Product.l1 k x0 x1 x5 x6 0 0) else (some x5)
def hornbeamref04_Product.l1 : Nat → List Int → List Int → List Int → Int → Int → Int → Option (List Int)
 | 0, _, _, _, _, _, _ => none
 | k + 1, x0, x1, x5, x6, x7, x8 => if x8 < (x1.length : Int) then (if 0 ≤ (wrap64 (x6 + x8)) then (if (wrap64 (x6 + x8)) < (x5.length : Int) then (if 0 ≤ x6 then (if x6 < (x0.length : Int) then (if 0 ≤ x8 then (hornbeamref04_Product.l1 k x0 x1 (x5.set ((wrap64 (x6 + x8)) : Int).toNat (Int.tmod (IntKind.u64.wrap ((IntKind.u64.wrap ((rd x5 (wrap64 (x6 + x8))) + (IntKind.u64.wrap ((rd x0 x6) * (rd x1 x8))))) + x7)) 65536)) x6 (IntKind.u64.wrap (Int.tdiv (IntKind.u64.wrap ((IntKind.u64.wrap ((rd x5 (wrap64 (x6 + x8))) + (IntKind.u64.wrap ((rd x0 x6) * (rd x1 x8))))) + x7)) 65536)) (wrap64 (x8 + 1))) else (none)) else (none)) else (none)) else (none)) else (none)) else (if 0 ≤ (wrap64 (x6 + (x1.length : Int))) then (if (wrap64 (x6 + (x1.length : Int))) < (x5.length : Int) then (hornbeamref04_Product.l0 k x0 x1 (x5.set ((wrap64 (x6 + (x1.length : Int))) : Int).toNat x7) (wrap64 (x6 + 1))) else (none)) else (none))
end
def hornbeamref04_Product.f (k : Nat) (l0 : List Int) (l1 : List Int) : Option (List Int) := if 0 ≤ (wrap64 ((l0.length : Int) + (l1.length : Int))) then (if (wrap64 ((l0.length : Int) + (l1.length : Int)) : Int).toNat ≤ 35184372088832 then (hornbeamref04_Product.l0 k l0 l1 (List.replicate (wrap64 ((l0.length : Int) + (l1.length : Int)) : Int).toNat 0) 0) else (none)) else (none)
theorem hornbeamref04_Product.mono_l : ∀ k, (∀ y0 y1 y2 y3, LeO (hornbeamref04_Product.l0 k y0 y1 y2 y3) (hornbeamref04_Product.l0 (k + 1) y0 y1 y2 y3)) ∧ (∀ y0 y1 y2 y3 y4 y5, LeO (hornbeamref04_Product.l1 k y0 y1 y2 y3 y4 y5) (hornbeamref04_Product.l1 (k + 1) y0 y1 y2 y3 y4 y5))
 | 0 => ⟨fun _ _ _ _ r h => by simp [hornbeamref04_Product.l0] at h, fun _ _ _ _ _ _ r h => by simp [hornbeamref04_Product.l1] at h⟩
 | k + 1 => by
  obtain ⟨ih0, ih1⟩ := hornbeamref04_Product.mono_l k
  refine ⟨?_, ?_⟩
  all_goals (intros; first | unfold hornbeamref04_Product.l0 | unfold hornbeamref04_Product.l1)
  all_goals with_reducible repeat' first | apply ih0 | apply ih1 | apply LeO.refl | apply LeO.none | refine LeO.ite ?_ ?_ | refine LeO.bind ?_ (fun _ => ?_)
theorem hornbeamref04_Product.mono : ∀ a0 a1 k, LeO (hornbeamref04_Product.f k a0 a1) (hornbeamref04_Product.f (k + 1) a0 a1) := by
 intro a0 a1 k
 obtain ⟨ih0, ih1⟩ := hornbeamref04_Product.mono_l k
 unfold hornbeamref04_Product.f
 with_reducible repeat' first | apply ih0 | apply ih1 | apply LeO.refl | apply LeO.none | refine LeO.ite ?_ ?_ | refine LeO.bind ?_ (fun _ => ?_)
set_option maxHeartbeats 8000000 in
set_option maxRecDepth 100000 in
theorem hornbeamref04_Product.calls (k : Nat) (A0 : Option Addr) (c0 : Nat) (l0 : List Int) (A1 : Option Addr) (c1 : Nat) (l1 : List Int) (r : List Int) (w : World) (b2 : Kd.C (Kd.int .u64) w A0 l0.length l0) (b3 : l0.length ≤ c0) (b4 : Kd.C (Kd.int .u64) w A1 l1.length l1) (b5 : l1.length ≤ c1) (h : hornbeamref04_Product.f k l0 l1 = some r) :
  Calls Try.prog 30 #[.slice A0 l0.length c0, .slice A1 l1.length c1] w fun e w' => ∃ b6 : Value, e = .returned (b6) ∧ Kd.R (Kd.int .u64) 28 w' w.heap.size (fun _ => True) b6 r ∧ Below w.heap.size w w' := by
 have cg := aaM b2
 have cq := aaM b3
 clear b2 b3
 have ch := aaM b4
 have cr := aaM b5
 clear b4 b5
 have HB := aaM (Below.refl w.heap.size w)
 have H : (if 0 ≤ (wrap64 ((l0.length : Int) + (l1.length : Int))) then (if (wrap64 ((l0.length : Int) + (l1.length : Int)) : Int).toNat ≤ 35184372088832 then (hornbeamref04_Product.l0 k l0 l1 (List.replicate (wrap64 ((l0.length : Int) + (l1.length : Int)) : Int).toNat 0) 0) else (none)) else (none)) = some r := h
 clear h
 obtain ⟨al, a7⟩ : ∃ j_ : Int, (wrap64 ((l0.length : Int) + (l1.length : Int))) = j_ := ⟨_, rfl⟩
 replace H : (if 0 ≤ (al) then (if (al : Int).toNat ≤ 35184372088832 then (hornbeamref04_Product.l0 k l0 l1 (List.replicate (al : Int).toNat 0) 0) else (none)) else (none)) = some r := by first | (rw [a7] at H; exact H) | (simp only [a7] at H ⊢; exact H)
 have ct : (IntKind.i64.wrap ((l0.length : Int) + (l1.length : Int))) = al := (i64_w _).trans a7
 by_cases c4 : 0 ≤ (al)
 ·rw [if_pos c4] at H
  have c4b0 := eq_true c4; have c4b1 : decide (0 ≤ (al)) = true := decide_eq_true c4; clear c4
  by_cases c5 : (al : Int).toNat ≤ 35184372088832
  ·rw [if_pos c5] at H
   have c5b0 := eq_true c5; have c5b1 : decide ((al : Int).toNat ≤ 35184372088832) = true := decide_eq_true c5; clear c5; obtain ⟨b7, a0⟩ : ∃ y_ : List Int, y_ = (List.replicate (al : Int).toNat 0) := ⟨_, rfl⟩
   replace H : (hornbeamref04_Product.l0 k l0 l1 b7 0) = some r := by first | (rw [a0]; with_reducible exact H) | (have ao := (Option.bind_some _ _).symm.trans H; rw [a0]; with_reducible exact ao) | (have ao := (Option.bind_some _ _).symm.trans H; with_reducible exact ao) | with_reducible exact H | (rw [a0]; exact H) | exact H
   have ax := aaM a0; clear a0; have H' := aaM H; clear H; go_enter Try.func30, Try.ntmps30
   go_wp2_with (first | ((with_reducible refine gate_dst (N := 15) rfl ?_); refine Kd.R_make (Kd.int .u64) _ 28 rfl (N := 15) rfl 74 _ _ rfl al rfl rfl Try.underlying74 (.int .u64 0) 8 info28 rfl (by decide) (by omega) 0 (ok := fun _ => True) (okp := fun _ => True) rfl (fun _ hk => hk) trivial (of_decide_eq_true (by first | (with_reducible assumption) | assumption)) (Nat.le_trans (Nat.mul_le_mul_right _ (of_decide_eq_true (by first | (with_reducible assumption) | assumption) : al.toNat ≤ 35184372088832)) (by omega)) (Below.refl _ _) (Nat.le_refl _) ?_; intro a8 w6 ak hb hg_ hnew_; clear hg_ hnew_; (first | rw [← ax.out] at ak | (simp only [Int.reduceToNat] at ak; rw [← ax.out] at ak)); have bk := aaM (Kd.R_lower ak (lZ (lB HB))); replace HB := aaM (lP (lB HB) hb); clear hb ak))
   repeat (go_quiet (first | ((with_reducible refine gate_dst (N := 15) rfl ?_); refine Kd.R_make (Kd.int .u64) _ 28 rfl (N := 15) rfl 74 _ _ rfl al rfl rfl Try.underlying74 (.int .u64 0) 8 info28 rfl (by decide) (by omega) 0 (ok := fun _ => True) (okp := fun _ => True) rfl (fun _ hk => hk) trivial (of_decide_eq_true (by first | (with_reducible assumption) | assumption)) (Nat.le_trans (Nat.mul_le_mul_right _ (of_decide_eq_true (by first | (with_reducible assumption) | assumption) : al.toNat ≤ 35184372088832)) (by omega)) (Below.refl _ _) (Nat.le_refl _) ?_; intro a8 w6 ak hb hg_ hnew_; clear hg_ hnew_; (first | rw [← ax.out] at ak | (simp only [Int.reduceToNat] at ak; rw [← ax.out] at ak)); have ae := aaM (Kd.R_lower ak (lZ (lB HB))); have af := aaM (lP (lB HB) hb); clear HB; have bk := ae; have HB := af; clear ae af; clear hb ak)); try go_wp2_with (first | ((with_reducible refine gate_dst (N := 15) rfl ?_); refine Kd.R_make (Kd.int .u64) _ 28 rfl (N := 15) rfl 74 _ _ rfl al rfl rfl Try.underlying74 (.int .u64 0) 8 info28 rfl (by decide) (by omega) 0 (ok := fun _ => True) (okp := fun _ => True) rfl (fun _ hk => hk) trivial (of_decide_eq_true (by first | (with_reducible assumption) | assumption)) (Nat.le_trans (Nat.mul_le_mul_right _ (of_decide_eq_true (by first | (with_reducible assumption) | assumption) : al.toNat ≤ 35184372088832)) (by omega)) (Below.refl _ _) (Nat.le_refl _) ?_; intro a8 w6 ak hb hg_ hnew_; clear hg_ hnew_; (first | rw [← ax.out] at ak | (simp only [Int.reduceToNat] at ak; rw [← ax.out] at ak)); have ae := aaM (Kd.R_lower ak (lZ (lB HB))); have af := aaM (lP (lB HB) hb); clear HB; have bk := ae; have HB := af; clear ae af; clear hb ak)))
   go_loopg [6] k (fun kq v6 w' => ∃ (a9 : List Int) (ac : Int), v6 = .int .i64 ac ∧ Aside0 (hornbeamref04_Product.l0 kq l0 l1 a9 ac = some r) ∧ Aside0 (kq ≤ k) ∧ Aside0 (Kd.R (Kd.int .u64) 28 w' w.heap.size (fun _ => True) a8 a9) ∧ Aside0 (Below w.heap.size w w'))
   case atStart => exact ⟨(b7), (0), (eF), H', ⟨Nat.le_refl _⟩, ⟨rZ bk⟩, ⟨lB HB⟩⟩
   case round =>
    clear H'; (try clear c1); (try clear c4); (try clear c4b0); (try clear c4b1); (try clear c5); (try clear c5b0); (try clear c5b1); obtain ⟨a9, ac, rfl, HA, ba, aa, HB⟩ := hrel
    cases gk with
    | zero => exact absurd HA.out (by simp [hornbeamref04_Product.l0])
    | succ k1 =>
     have H := HA.out; clear HA; simp only [hornbeamref04_Product.l0] at H
     by_cases c8 : ac < (l0.length : Int)
     ·rw [if_pos c8] at H
      have c8b0 : decide (ac < (l0.length : Int)) = true := decide_eq_true c8; clear c8; have H' := aaM H; clear H; go_wp2
      repeat (go_quiet (fail); try go_wp2)
      go_loopg [7, 8] k1 (fun kq v7 v8 w' => ∃ (ag : List Int) (ai : Int) (ah : Int), v7 = .int .u64 ai ∧ v8 = .int .i64 ah ∧ Aside0 (hornbeamref04_Product.l1 kq l0 l1 ag ac ai ah = some r) ∧ Aside0 (kq ≤ k1) ∧ Aside0 (Kd.R (Kd.int .u64) 28 w' w.heap.size (fun _ => True) a8 ag) ∧ Aside0 (Below w.heap.size w w'))
      case atStart => exact ⟨(a9), (0), (0), (eF), (eF), H', ⟨Nat.le_refl _⟩, ⟨rZ aa⟩, ⟨lB HB⟩⟩
      case round =>
       clear H'; (try clear c1); (try clear c4); (try clear c4b0); (try clear c4b1); (try clear c5); (try clear c5b0); (try clear c5b1); (try clear c8); (try clear c8b0); obtain ⟨ag, ai, ah, rfl, rfl, HA, bb, aa, HB⟩ := hrel
       cases gk with
       | zero => exact absurd HA.out (by simp [hornbeamref04_Product.l1])
       | succ k2 =>
        have H := HA.out; clear HA; simp only [hornbeamref04_Product.l1] at H
        by_cases c9 : ah < (l1.length : Int)
        ·rw [if_pos c9] at H
         have c9b0 : decide (ah < (l1.length : Int)) = true := decide_eq_true c9; clear c9; obtain ⟨ab, bc⟩ : ∃ j_ : Int, (wrap64 (ac + ah)) = j_ := ⟨_, rfl⟩
         replace H : (if 0 ≤ (ab) then (if (ab) < (ag.length : Int) then (if 0 ≤ ac then (if ac < (l0.length : Int) then (if 0 ≤ ah then (hornbeamref04_Product.l1 k2 l0 l1 (ag.set ((ab) : Int).toNat (Int.tmod (IntKind.u64.wrap ((IntKind.u64.wrap ((rd ag (ab)) + (IntKind.u64.wrap ((rd l0 ac) * (rd l1 ah))))) + ai)) 65536)) ac (IntKind.u64.wrap (Int.tdiv (IntKind.u64.wrap ((IntKind.u64.wrap ((rd ag (ab)) + (IntKind.u64.wrap ((rd l0 ac) * (rd l1 ah))))) + ai)) 65536)) (wrap64 (ah + 1))) else (none)) else (none)) else (none)) else (none)) else (none)) = some r := by first | (rw [bc] at H; exact H) | (simp only [bc] at H ⊢; exact H)
         have cu : (IntKind.i64.wrap (ac + ah)) = ab := (i64_w _).trans bc
         by_cases bd : 0 ≤ (ab)
         ·rw [if_pos bd] at H
          have c11b0 : decide (0 ≤ (ab)) = true := decide_eq_true bd; clear bd
          by_cases be : (ab) < (ag.length : Int)
          ·rw [if_pos be] at H
           have c12b0 : decide ((ab) < (ag.length : Int)) = true := decide_eq_true be; clear be
           by_cases bf : 0 ≤ ac
           ·rw [if_pos bf] at H
            have c13b0 : decide (0 ≤ ac) = true := decide_eq_true bf; clear bf
            by_cases bg : ac < (l0.length : Int)
            ·rw [if_pos bg] at H
             have c14b0 : decide (ac < (l0.length : Int)) = true := decide_eq_true bg; clear bg
             by_cases bh : 0 ≤ ah
             ·rw [if_pos bh] at H
              have c15b0 : decide (0 ≤ ah) = true := decide_eq_true bh; clear bh; obtain ⟨a1, a2⟩ : ∃ y_ : List Int, y_ = (ag.set ((ab) : Int).toNat (Int.tmod (IntKind.u64.wrap ((IntKind.u64.wrap ((rd ag (ab)) + (IntKind.u64.wrap ((rd l0 ac) * (rd l1 ah))))) + ai)) 65536)) := ⟨_, rfl⟩
              replace H : (hornbeamref04_Product.l1 k2 l0 l1 a1 ac (IntKind.u64.wrap (Int.tdiv (IntKind.u64.wrap ((IntKind.u64.wrap ((rd ag (ab)) + (IntKind.u64.wrap ((rd l0 ac) * (rd l1 ah))))) + ai)) 65536)) (wrap64 (ah + 1))) = some r := by first | (rw [a2]; with_reducible exact H) | (have ao := (Option.bind_some _ _).symm.trans H; rw [a2]; with_reducible exact ao) | (have ao := (Option.bind_some _ _).symm.trans H; with_reducible exact ao) | with_reducible exact H | (rw [a2]; exact H) | exact H
              have bl := aaM a2; clear a2; have H' := aaM H; clear H; obtain ⟨cv, bm, ci⟩ := Kd.R_slice aa.out; subst ci; have bn : 0 ≤ ((ab) : Int) := of_decide_eq_true (by first | (with_reducible assumption) | assumption); have bo : (ab) < (ag.length : Int) := of_decide_eq_true (by first | (with_reducible assumption) | assumption); obtain ⟨cw, cj, ck⟩ := Kd.at_int (Kd.R_reads' aa.out).2.2 (ab) bn bo
              cases cj
              replace bn := eq_true bn; replace bo := eq_true bo; have bp : 0 ≤ (ac : Int) := of_decide_eq_true (by first | (with_reducible assumption) | assumption); have bq : ac < (l0.length : Int) := of_decide_eq_true (by first | (with_reducible assumption) | assumption); obtain ⟨cx, cl, br⟩ := Kd.at_int cg.out ac bp bq
              cases cl
              replace br := (HB.out.cell (World.block_lt_of_cell? w _ br)).trans br; replace bp := eq_true bp; replace bq := eq_true bq; have bs : 0 ≤ (ah : Int) := of_decide_eq_true (by first | (with_reducible assumption) | assumption); have bt : ah < (l1.length : Int) := of_decide_eq_true (by first | (with_reducible assumption) | assumption); obtain ⟨cy, cm, bu⟩ := Kd.at_int ch.out ah bs bt
              cases cm
              replace bu := (HB.out.cell (World.block_lt_of_cell? w _ bu)).trans bu; replace bs := eq_true bs; replace bt := eq_true bt; have ar : 0 ≤ ((ab) : Int) := of_decide_eq_true (by first | (with_reducible assumption) | assumption); have au : ((ab) : Int) < ((ag.length : Int) : Int) := of_decide_eq_true (by first | (with_reducible assumption) | assumption); obtain ⟨av, cz, b8, b9, cn, c2, ca⟩ := Kd.R_form aa.out (by omega); (first | cases b8 | (injection b8 with ea_ en_ ec_; (first | subst ea_ | (injection ea_ with ea_; subst ea_)); subst ec_; clear en_)); have bv := aaM b9; have c6 := aaM ca; clear b9 cn ca; (first | simp only [add_plain] at ck | skip); obtain ⟨c7, da⟩ := Kd.R_celln 0 aa.out ((ab) : Int) ar au; replace ar := eq_true ar; replace au := eq_true au; have am := Kd.R_putg aa.out ((ab) : Int) (Int.tmod (IntKind.u64.wrap ((IntKind.u64.wrap ((rd ag (ab)) + (IntKind.u64.wrap ((rd l0 ac) * (rd l1 ah))))) + ai)) 65536)
              go_wp2_with (first | ((with_reducible refine gate_store (t := 28) (p := 52) rfl ?_); (try (rw [drewN_self wr]; generalize hq_ : World.drewN wr _ = wr; have ae := aaM (Kd.R_at hq_ aa.out); have af := aaM (below_at hq_ HB.out); clear hq_ aa HB; have aa := ae; have HB := af; clear ae af; (try (have am := Kd.R_putg aa.out ((ab) : Int) (Int.tmod (IntKind.u64.wrap ((IntKind.u64.wrap ((rd ag (ab)) + (IntKind.u64.wrap ((rd l0 ac) * (rd l1 ah))))) + ai)) 65536))); (try (obtain ⟨a3, a4⟩ := Kd.R_celln 0 aa.out ((ab) : Int) (of_eq_true ar) (of_eq_true au))))); refine store_event (t := 28) (p := 52) (v := ?vo_w19) (w1 := (wr.setCell ⟨av, ((ab) : Int).toNat, none⟩ (.int .u64 (Int.tmod (IntKind.u64.wrap ((IntKind.u64.wrap ((rd ag (ab)) + (IntKind.u64.wrap ((rd l0 ac) * (rd l1 ah))))) + ai)) 65536)))) ?hg ?ho ?hn ?hr ?_; (case ho => rfl); (case hg => rfl); (case hn => rfl); (case hr => first | (go_simp; done) | (go_simp; rfl)); intro ap hw; have hg : wr.grownBy ap (some av) := (by rw [hw]; exact am.2); have hp_ : Kd.R (Kd.int .u64) 28 ap w.heap.size (fun _ => True) (.slice (some ⟨av, 0, none⟩) ag.length bm) a1 := (by rw [hw, bl.out]; exact am.1); clear am; replace aa := aaM (hp_); replace HB := aaM ((by rw [hw]; exact lS (HB.out) bv.out : Below w.heap.size w ap)); clear hg hw hp_))
              repeat (go_quiet (first | ((with_reducible refine gate_store (t := 28) (p := 52) rfl ?_); (try (rw [drewN_self wr]; generalize hq_ : World.drewN wr _ = wr; have ae := aaM (Kd.R_at hq_ aa.out); have af := aaM (below_at hq_ HB.out); clear hq_ aa HB; have aa := ae; have HB := af; clear ae af; (try (have am := Kd.R_putg aa.out ((ab) : Int) (Int.tmod (IntKind.u64.wrap ((IntKind.u64.wrap ((rd ag (ab)) + (IntKind.u64.wrap ((rd l0 ac) * (rd l1 ah))))) + ai)) 65536))); (try (obtain ⟨a3, a4⟩ := Kd.R_celln 0 aa.out ((ab) : Int) (of_eq_true ar) (of_eq_true au))))); refine store_event (t := 28) (p := 52) (v := ?vo_w19) (w1 := (wr.setCell ⟨av, ((ab) : Int).toNat, none⟩ (.int .u64 (Int.tmod (IntKind.u64.wrap ((IntKind.u64.wrap ((rd ag (ab)) + (IntKind.u64.wrap ((rd l0 ac) * (rd l1 ah))))) + ai)) 65536)))) ?hg ?ho ?hn ?hr ?_; (case ho => rfl); (case hg => rfl); (case hn => rfl); (case hr => first | (go_simp; done) | (go_simp; rfl)); intro ap hw; have hg : wr.grownBy ap (some av) := (by rw [hw]; exact am.2); have hp_ : Kd.R (Kd.int .u64) 28 ap w.heap.size (fun _ => True) (.slice (some ⟨av, 0, none⟩) ag.length bm) a1 := (by rw [hw, bl.out]; exact am.1); clear am; have ae := aaM (hp_); have af := aaM ((by rw [hw]; exact lS (HB.out) bv.out : Below w.heap.size w ap)); clear aa; clear HB; have aa := ae; have HB := af; clear ae af; clear hg hw hp_)); try go_wp2_with (first | ((with_reducible refine gate_store (t := 28) (p := 52) rfl ?_); (try (rw [drewN_self wr]; generalize hq_ : World.drewN wr _ = wr; have ae := aaM (Kd.R_at hq_ aa.out); have af := aaM (below_at hq_ HB.out); clear hq_ aa HB; have aa := ae; have HB := af; clear ae af; (try (have am := Kd.R_putg aa.out ((ab) : Int) (Int.tmod (IntKind.u64.wrap ((IntKind.u64.wrap ((rd ag (ab)) + (IntKind.u64.wrap ((rd l0 ac) * (rd l1 ah))))) + ai)) 65536))); (try (obtain ⟨a3, a4⟩ := Kd.R_celln 0 aa.out ((ab) : Int) (of_eq_true ar) (of_eq_true au))))); refine store_event (t := 28) (p := 52) (v := ?vo_w19) (w1 := (wr.setCell ⟨av, ((ab) : Int).toNat, none⟩ (.int .u64 (Int.tmod (IntKind.u64.wrap ((IntKind.u64.wrap ((rd ag (ab)) + (IntKind.u64.wrap ((rd l0 ac) * (rd l1 ah))))) + ai)) 65536)))) ?hg ?ho ?hn ?hr ?_; (case ho => rfl); (case hg => rfl); (case hn => rfl); (case hr => first | (go_simp; done) | (go_simp; rfl)); intro ap hw; have hg : wr.grownBy ap (some av) := (by rw [hw]; exact am.2); have hp_ : Kd.R (Kd.int .u64) 28 ap w.heap.size (fun _ => True) (.slice (some ⟨av, 0, none⟩) ag.length bm) a1 := (by rw [hw, bl.out]; exact am.1); clear am; have ae := aaM (hp_); have af := aaM ((by rw [hw]; exact lS (HB.out) bv.out : Below w.heap.size w ap)); clear aa; clear HB; have aa := ae; have HB := af; clear ae af; clear hg hw hp_)))
              go_roundg k2
              case measure => have := ba.out; have := bb.out; omega
              case rel => exact ⟨(a1), (IntKind.u64.wrap (Int.tdiv (IntKind.u64.wrap ((IntKind.u64.wrap ((rd ag (ab)) + (IntKind.u64.wrap ((rd l0 ac) * (rd l1 ah))))) + ai)) 65536)), (wrap64 (ah + 1)), (by first | rfl | (simp; done) | (simp only [← bc] <;> (first | rfl | simp)) | (simp [*]; done)), (eF), H', ⟨by have := ba.out; have := bb.out; omega⟩, ⟨rZ aa⟩, ⟨lB HB⟩⟩
             ·rw [if_neg bh] at H
              exact absurd H (by simp)
            ·rw [if_neg bg] at H
             exact absurd H (by simp)
           ·rw [if_neg bf] at H
            exact absurd H (by simp)
          ·rw [if_neg be] at H
           exact absurd H (by simp)
         ·rw [if_neg bd] at H
          exact absurd H (by simp)
        ·rw [if_neg c9] at H
         have c9b0 : decide (ah < (l1.length : Int)) = false := decide_eq_false c9; clear c9; obtain ⟨aj, bw⟩ : ∃ j_ : Int, (wrap64 (ac + (l1.length : Int))) = j_ := ⟨_, rfl⟩
         replace H : (if 0 ≤ (aj) then (if (aj) < (ag.length : Int) then (hornbeamref04_Product.l0 k2 l0 l1 (ag.set ((aj) : Int).toNat ai) (wrap64 (ac + 1))) else (none)) else (none)) = some r := by first | (rw [bw] at H; exact H) | (simp only [bw] at H ⊢; exact H)
         have db : (IntKind.i64.wrap (ac + (l1.length : Int))) = aj := (i64_w _).trans bw
         by_cases bi : 0 ≤ (aj)
         ·rw [if_pos bi] at H
          have c21b0 : decide (0 ≤ (aj)) = true := decide_eq_true bi; clear bi
          by_cases bj : (aj) < (ag.length : Int)
          ·rw [if_pos bj] at H
           have c22b0 : decide ((aj) < (ag.length : Int)) = true := decide_eq_true bj; clear bj; obtain ⟨a5, a6⟩ : ∃ y_ : List Int, y_ = (ag.set ((aj) : Int).toNat ai) := ⟨_, rfl⟩
           replace H : (hornbeamref04_Product.l0 k2 l0 l1 a5 (wrap64 (ac + 1))) = some r := by first | (rw [a6]; with_reducible exact H) | (have ao := (Option.bind_some _ _).symm.trans H; rw [a6]; with_reducible exact ao) | (have ao := (Option.bind_some _ _).symm.trans H; with_reducible exact ao) | with_reducible exact H | (rw [a6]; exact H) | exact H
           have bz := aaM a6; clear a6; have H' := aaM H; clear H; have ay : 0 ≤ ((aj) : Int) := of_decide_eq_true (by first | (with_reducible assumption) | assumption); have az : ((aj) : Int) < ((ag.length : Int) : Int) := of_decide_eq_true (by first | (with_reducible assumption) | assumption); obtain ⟨aw, b0, cb, cc, cp, dc, cd⟩ := Kd.R_form aa.out (by omega); (first | cases cb | (injection cb with ea_ en_ ec_; (first | subst ea_ | (injection ea_ with ea_; subst ea_)); subst ec_; clear en_)); have b1 := aaM cc; have dd := aaM cd; clear cc cp cd; obtain ⟨de, df⟩ := Kd.R_celln 0 aa.out ((aj) : Int) ay az; replace ay := eq_true ay; replace az := eq_true az; have an := Kd.R_putg aa.out ((aj) : Int) ai
           go_wp2_with (first | ((with_reducible refine gate_store (t := 28) (p := 61) rfl ?_); (try (rw [drewN_self wr]; generalize hq_ : World.drewN wr _ = wr; have ae := aaM (Kd.R_at hq_ aa.out); have af := aaM (below_at hq_ HB.out); clear hq_ aa HB; have aa := ae; have HB := af; clear ae af; (try (have an := Kd.R_putg aa.out ((aj) : Int) ai)); (try (obtain ⟨a3, a4⟩ := Kd.R_celln 0 aa.out ((ab) : Int) (of_eq_true ar) (of_eq_true au))); (try (obtain ⟨ce, cf⟩ := Kd.R_celln 0 aa.out ((aj) : Int) (of_eq_true ay) (of_eq_true az))))); refine store_event (t := 28) (p := 61) (v := ?vo_w25) (w1 := (wr.setCell ⟨aw, ((aj) : Int).toNat, none⟩ (.int .u64 ai))) ?hg ?ho ?hn ?hr ?_; (case ho => rfl); (case hg => rfl); (case hn => rfl); (case hr => first | (go_simp; done) | (go_simp; rfl)); intro aq hw; have hg : wr.grownBy aq (some aw) := (by rw [hw]; exact an.2); have hp_ : Kd.R (Kd.int .u64) 28 aq w.heap.size (fun _ => True) (.slice (some ⟨aw, 0, none⟩) ag.length b0) a5 := (by rw [hw, bz.out]; exact an.1); clear an; replace aa := aaM (hp_); replace HB := aaM ((by rw [hw]; exact lS (HB.out) b1.out : Below w.heap.size w aq)); clear hg hw hp_))
           repeat (go_quiet (first | ((with_reducible refine gate_store (t := 28) (p := 61) rfl ?_); (try (rw [drewN_self wr]; generalize hq_ : World.drewN wr _ = wr; have ae := aaM (Kd.R_at hq_ aa.out); have af := aaM (below_at hq_ HB.out); clear hq_ aa HB; have aa := ae; have HB := af; clear ae af; (try (have an := Kd.R_putg aa.out ((aj) : Int) ai)); (try (obtain ⟨a3, a4⟩ := Kd.R_celln 0 aa.out ((ab) : Int) (of_eq_true ar) (of_eq_true au))); (try (obtain ⟨ce, cf⟩ := Kd.R_celln 0 aa.out ((aj) : Int) (of_eq_true ay) (of_eq_true az))))); refine store_event (t := 28) (p := 61) (v := ?vo_w25) (w1 := (wr.setCell ⟨aw, ((aj) : Int).toNat, none⟩ (.int .u64 ai))) ?hg ?ho ?hn ?hr ?_; (case ho => rfl); (case hg => rfl); (case hn => rfl); (case hr => first | (go_simp; done) | (go_simp; rfl)); intro aq hw; have hg : wr.grownBy aq (some aw) := (by rw [hw]; exact an.2); have hp_ : Kd.R (Kd.int .u64) 28 aq w.heap.size (fun _ => True) (.slice (some ⟨aw, 0, none⟩) ag.length b0) a5 := (by rw [hw, bz.out]; exact an.1); clear an; have ae := aaM (hp_); have af := aaM ((by rw [hw]; exact lS (HB.out) b1.out : Below w.heap.size w aq)); clear aa; clear HB; have aa := ae; have HB := af; clear ae af; clear hg hw hp_)); try go_wp2_with (first | ((with_reducible refine gate_store (t := 28) (p := 61) rfl ?_); (try (rw [drewN_self wr]; generalize hq_ : World.drewN wr _ = wr; have ae := aaM (Kd.R_at hq_ aa.out); have af := aaM (below_at hq_ HB.out); clear hq_ aa HB; have aa := ae; have HB := af; clear ae af; (try (have an := Kd.R_putg aa.out ((aj) : Int) ai)); (try (obtain ⟨a3, a4⟩ := Kd.R_celln 0 aa.out ((ab) : Int) (of_eq_true ar) (of_eq_true au))); (try (obtain ⟨ce, cf⟩ := Kd.R_celln 0 aa.out ((aj) : Int) (of_eq_true ay) (of_eq_true az))))); refine store_event (t := 28) (p := 61) (v := ?vo_w25) (w1 := (wr.setCell ⟨aw, ((aj) : Int).toNat, none⟩ (.int .u64 ai))) ?hg ?ho ?hn ?hr ?_; (case ho => rfl); (case hg => rfl); (case hn => rfl); (case hr => first | (go_simp; done) | (go_simp; rfl)); intro aq hw; have hg : wr.grownBy aq (some aw) := (by rw [hw]; exact an.2); have hp_ : Kd.R (Kd.int .u64) 28 aq w.heap.size (fun _ => True) (.slice (some ⟨aw, 0, none⟩) ag.length b0) a5 := (by rw [hw, bz.out]; exact an.1); clear an; have ae := aaM (hp_); have af := aaM ((by rw [hw]; exact lS (HB.out) b1.out : Below w.heap.size w aq)); clear aa; clear HB; have aa := ae; have HB := af; clear ae af; clear hg hw hp_)))
           go_roundg k2
           case measure => have := ba.out; have := bb.out; omega
           case rel => exact ⟨(a5), (wrap64 (ac + 1)), (eF), H', ⟨by have := ba.out; have := bb.out; omega⟩, ⟨rZ aa⟩, ⟨lB HB⟩⟩
          ·rw [if_neg bj] at H
           exact absurd H (by simp)
         ·rw [if_neg bi] at H
          exact absurd H (by simp)
     ·rw [if_neg c8] at H
      have c8b0 : decide (ac < (l0.length : Int)) = false := decide_eq_false c8; clear c8; obtain rfl := Option.some.inj H; go_wp2
      repeat (go_quiet (fail); try go_wp2)
      go_ret
      exact ⟨_, by first | rfl | (simp [errW_none, errW_some] <;> rfl) | (simp only [← a7]; first | rfl | (simp [errW_none, errW_some] <;> rfl)) | (simp [*, errW_none, errW_some] <;> rfl), rZ aa, lB HB⟩
  ·rw [if_neg c5] at H
   exact absurd H (by simp)
 ·rw [if_neg c4] at H
  exact absurd H (by simp)

/-! ### hornbeamref04_Digits: function 32 -/
def hornbeamref04_Digits.f (a0 : Int) : Option (List Int) := some (([Int.tmod a0 65536, Int.tmod (IntKind.u64.wrap (Int.tdiv a0 65536)) 65536, Int.tmod (IntKind.u64.wrap (Int.tdiv a0 4294967296)) 65536, IntKind.u64.wrap (Int.tdiv a0 281474976710656)] : List Int))
set_option maxHeartbeats 8000000 in
set_option maxRecDepth 100000 in
theorem hornbeamref04_Digits.calls (a0 : Int) (r : List Int) (w : World) (h : hornbeamref04_Digits.f a0 = some r) :
  Calls Try.prog 32 #[.int .u64 a0] w fun e w' => ∃ ae : Value, e = .returned (ae) ∧ Kd.R (Kd.int .u64) 28 w' w.heap.size (fun _ => True) ae r ∧ Below w.heap.size w w' := by
 have HB := aaM (Below.refl w.heap.size w)
 have H : (some (([Int.tmod a0 65536, Int.tmod (IntKind.u64.wrap (Int.tdiv a0 65536)) 65536, Int.tmod (IntKind.u64.wrap (Int.tdiv a0 4294967296)) 65536, IntKind.u64.wrap (Int.tdiv a0 281474976710656)] : List Int))) = some r := h
 clear h
 obtain ⟨ag, aa⟩ : ∃ y_ : List Int, y_ = (([Int.tmod a0 65536, Int.tmod (IntKind.u64.wrap (Int.tdiv a0 65536)) 65536, Int.tmod (IntKind.u64.wrap (Int.tdiv a0 4294967296)) 65536, IntKind.u64.wrap (Int.tdiv a0 281474976710656)] : List Int)) := ⟨_, rfl⟩
 replace H : (some ag) = some r := by first | (rw [aa]; with_reducible exact H) | (have ac := (Option.bind_some _ _).symm.trans H; rw [aa]; with_reducible exact ac) | (have ac := (Option.bind_some _ _).symm.trans H; with_reducible exact ac) | with_reducible exact H | (rw [aa]; exact H) | exact H
 have af := aaM aa
 clear aa
 obtain rfl := Option.some.inj H
 go_enter Try.func32, Try.ntmps32
 go_wp2_with (first | ((with_reducible refine gate_dst (N := 13) rfl ?_); refine Kd.R_lit (Kd.int .u64) _ 28 ?hg (N := 13) ?hd (xs := ([Int.tmod a0 65536, Int.tmod (IntKind.u64.wrap (Int.tdiv a0 65536)) 65536, Int.tmod (IntKind.u64.wrap (Int.tdiv a0 4294967296)) 65536, IntKind.u64.wrap (Int.tdiv a0 281474976710656)] : List Int)) (inner := [.int .u64 (Int.tmod a0 65536), .int .u64 (Int.tmod (IntKind.u64.wrap (Int.tdiv a0 65536)) 65536), .int .u64 (Int.tmod (IntKind.u64.wrap (Int.tdiv a0 4294967296)) 65536), .int .u64 (IntKind.u64.wrap (Int.tdiv a0 281474976710656))]) (ok := fun _ => True) (okp := fun _ => True) ?hr ?hp (fun _ hk => hk) trivial (Below.refl _ _) (Nat.le_refl _) (by simp) ?_; (case hd => rfl); (case hg => rfl); (case hr => first | (go_simp; done) | (go_simp; rfl)); (case hp => exact (Reps.one (show Kd.M (Kd.int .u64) _ _ _ (Int.tmod a0 65536) [.int .u64 (Int.tmod a0 65536)] from rfl) (Reps.one (show Kd.M (Kd.int .u64) _ _ _ (Int.tmod (IntKind.u64.wrap (Int.tdiv a0 65536)) 65536) [.int .u64 (Int.tmod (IntKind.u64.wrap (Int.tdiv a0 65536)) 65536)] from rfl) (Reps.one (show Kd.M (Kd.int .u64) _ _ _ (Int.tmod (IntKind.u64.wrap (Int.tdiv a0 4294967296)) 65536) [.int .u64 (Int.tmod (IntKind.u64.wrap (Int.tdiv a0 4294967296)) 65536)] from rfl) (Reps.one (show Kd.M (Kd.int .u64) _ _ _ (IntKind.u64.wrap (Int.tdiv a0 281474976710656)) [.int .u64 (IntKind.u64.wrap (Int.tdiv a0 281474976710656))] from rfl) (Reps.none _ _)))))); intro ai w2 ab hb hg_ hnew_; clear hg_ hnew_; (first | rw [← af.out] at ab | (simp only [Int.reduceToNat] at ab; rw [← af.out] at ab)); have ah := aaM (Kd.R_lower ab (lZ (lB HB))); replace HB := aaM (lP (lB HB) hb); clear hb ab))
 go_ret
 exact ⟨_, eE, rZ ah, lB HB⟩

/-! ### hornbeamref04_OfWide: function 31 -/
def hornbeamref04_OfWide.f (a0_0 : Int) (a0_1 : Int) : Option (List Int) := (hornbeamref04_Digits.f a0_1).bind fun t319 => ((hornbeamref04_Digits.f a0_0).bind fun t322 => (if t319.length + t322.length < 17592186044416 then (some (t319 ++ t322)) else (none)))
def hornbeamref04_OfWide.T1 : Bool × List (List Nat × List Nat) := (true, [([], []), ([0], [0]), ([1], [1]), ([], []), ([3], [3]), ([4, 2], [4]), ([2, 5, 5], [2, 5]), ([6, 6, 0, 1, 2, 3, 4, 5, 6], [6])])
def hornbeamref04_OfWide.B1 : List Nat := [0, 1, 3, 0, 8, 31, 63, 127]
theorem hornbeamref04_OfWide.tab1 : rtab .any (opsOf Try.f31 1) = hornbeamref04_OfWide.T1 := by kernel_rfl
theorem hornbeamref04_OfWide.bits1 : waitsOk hornbeamref04_OfWide.T1.2 hornbeamref04_OfWide.B1 = true := by kernel_rfl
set_option maxHeartbeats 8000000 in
set_option maxRecDepth 100000 in
theorem hornbeamref04_OfWide.calls (ae : Int) (af : Int) (r : List Int) (w : World) (h : hornbeamref04_OfWide.f ae af = some r) :
  Calls Try.prog 31 #[.agg #[.int .u64 ae, .int .u64 af]] w fun e w' => ∃ am : Value, e = .returned (am) ∧ Kd.R (Kd.int .u64) 28 w' w.heap.size (fun _ => True) am r ∧ Below w.heap.size w w' := by
 have ba := Try.underlying30
 have HB := aaM (Below.refl w.heap.size w)
 have H : ((hornbeamref04_Digits.f af).bind fun ab => ((hornbeamref04_Digits.f ae).bind fun aa => (if ab.length + aa.length < 17592186044416 then (some (ab ++ aa)) else (none)))) = some r := h
 clear h
 replace H := ooB.mp H
 obtain ⟨ab, an, H⟩ := H
 (try dsimp only at H)
 have A2 := aaM an
 clear an
 replace H := ooB.mp H
 obtain ⟨aa, ao, H⟩ := H
 (try dsimp only at H)
 have A3 := aaM ao
 clear ao
 by_cases c4 : ab.length + aa.length < 17592186044416
 ·rw [if_pos c4] at H
  have ay := aaM c4; clear c4; obtain ⟨az, aj⟩ : ∃ y_ : List Int, y_ = (ab ++ aa) := ⟨_, rfl⟩
  replace H : (some az) = some r := by first | (rw [aj]; with_reducible exact H) | (have ak := (Option.bind_some _ _).symm.trans H; rw [aj]; with_reducible exact ak) | (have ak := (Option.bind_some _ _).symm.trans H; with_reducible exact ak) | with_reducible exact H | (rw [aj]; exact H) | exact H
  have a0 := aaM aj; clear aj; obtain rfl := Option.some.inj H; go_enter Try.func31, Try.ntmps31; (try go_wp2_with (first | ((with_reducible refine gate_dst (N := 1) rfl ?_); refine bxF w HB 1 #[.int .u64 ae, .int .u64 af] 30 ?_; intro al hg w5 hb ac HB a1; have bb := a1; clear hb hg))); replace ac := aaM (bD ac.out); replace HB := aaM (lD HB.out); refine start_ (n := 8) (S := fun w' => w'.cell? ⟨al, 0, none⟩ = some (.int .u64 ae) ∧ w'.cell? ⟨al, 1, none⟩ = some (.int .u64 af)) (ds := []) _ (by kernel_rfl) rfl rfl hD (fun hHeld => ?_); refine with_tabW hornbeamref04_OfWide.tab1 hornbeamref04_OfWide.bits1 (fun HT_ HW_ => ?_); generalize w5.drew = w6 at ac HB hHeld ⊢; refine pU 0 3 (qB 8 1) HT_ ?_
  refine pU 3 6 (qB 8 9) HT_ ?_
  refine tU 1 4 (qB 8 11) HT_ HW_ hHeld ?_
  refine tU 4 7 (qB 8 27) HT_ HW_ hHeld ?_
  refine oU 2 (some 5) (qB 8 31) HT_ (fun K hK => ?_); refine gU Try.func32 #[.int .u64 af] ?_; (with_reducible refine (hornbeamref04_Digits.calls af ab _ A2.out).mono ?_); rintro e w7 ⟨a2, rfl, ag, hb⟩; refine ⟨_, rfl, ?_⟩; have ah := aaM (Kd.R_lower ag (lZ (lB HB))); replace ac := bY hb ac; replace HB := aaM (lP (lB HB) hb); (try clear hb); (try clear ag); refine hK.out _ _ hD (fun hHeld => ?_); clear hK K; refine nU 5 ?_
  refine oU 5 (some 8) (qB 8 63) HT_ (fun K hK => ?_); refine gU Try.func32 #[.int .u64 ae] ?_; (with_reducible refine (hornbeamref04_Digits.calls ae aa _ A3.out).mono ?_); rintro e w8 ⟨bc, rfl, ag, hb⟩; refine ⟨_, rfl, ?_⟩; have ai := aaM (Kd.R_lower (Kd.R_new' ag (Kd.R_lt (rZ ah))) (lZ (lB HB))); replace ah := aaM (Kd.R_elder' (rZ ah) (Kd.R_base ag) hb); replace ac := bY hb ac; replace HB := aaM (lP (lB HB) hb); (try clear hb); (try clear ag); obtain ⟨a4, a5, ap⟩ := Kd.R_slice ai.out; (first | subst ap | (injection ap with aq a6 ar; have a7 := aq.symm; have a8 := ar.symm; clear aq a6 ar; subst a7; subst a8)); refine hK.out _ _ hD (fun hHeld => ?_); clear hK K; refine nU 8 ?_
  refine oU 6 (some 9) (qB 8 127) HT_ (fun K hK => ?_); refine Kd.R_append_rows_step (Kd.int .u64) (w0 := w) w.heap.size (by rfl) (.tmp 5) (.tmp 8) 74 28 (.int .u64 0) 8 rfl Try.underlying74 info28 rfl (by decide) (by omega) a2 ab aa _ _ _ (fun k_ => some k_ ≠ (.slice a4 aa.length a5 : Value).ownBlock) (fun _ => False) rfl rfl ?aO ?aR (fun _ _ h => h) (fun _ h => h.elim) ?aF ?aB ?aS ?aL ?_; (case aR => repeat (first | exact (Kd.R_reads' ai.out).2.2 | (with_reducible refine ccA ?_ _) | (with_reducible refine ccN ?_ _) | (with_reducible refine ccD ?_))); (case aB => exact (lB HB)); (case aF => exact (fun k_ hk => Kd.fresh' (Kd.R_lt (rZ ai)) k_ hk)); (case aO => exact (by (with_reducible repeat (first | apply rrA | apply rrN | apply rrD)); exact Kd.R_mono ah.out (fun _ hk => hk.2))); (case aS => exact (lZ (lB HB))); (case aL => have := ay.out; omega); intro bd w9 ho hb hg hat; rw [← a0.out] at ho; have au := aaM (blk_grown (g := al) (bZ ac) hg (Kd.R_ne ah.out ac.out (by decide))); have av := aaM (Kd.R_after (ok := (fun _ => True)) (rZ ai) hg hat); have aw := aaM (hb); have ax := aaM (ho); clear ac ai HB ah; have ac := au; have ai := av; have HB := aw; have a9 := ax; clear au av aw ax ho hb hg hat; refine hK.out _ _ hD (fun hHeld => ?_); clear hK K; refine nU 9 ?_
  refine pU 7 2 (qB 8 255) HT_ ?_
  refine done_ (done_of HT_.out (by kernel_rfl)) ?_; (try go_wp2); go_ret
  exact ⟨_, eE, by (with_reducible repeat (first | apply rrA | apply rrN | apply rrD)); exact Kd.R_mono a9.out (fun _ hk => trivial), lB HB⟩
 ·rw [if_neg c4] at H
  exact absurd H (by simp)

/-! ### hornbeamref05_Cmp: function 16 -/
def hornbeamref05_Cmp.j0 : Nat → Bool → Int → Int → Int → Int → Int → Int → Option (Int)
 | 0, _, _, _, _, _, _, _ => none
 | k + 1, x12, x329000, x329001, x329002, x330000, x330001, x330002 => if x12 = true then (some 0) else (if x329002 = 0 then (some (-1)) else (if x330002 = 0 then (some 1) else ((hornbeamref04_OfWide.f x329000 x329001).bind fun t330 => ((hornbeamref04_Digits.f x330002).bind fun t333 => ((hornbeamref04_Product.f k t330 t333).bind fun t336 => ((hornbeamref04_OfWide.f x330000 x330001).bind fun t339 => ((hornbeamref04_Digits.f x329002).bind fun t342 => ((hornbeamref04_Product.f k t339 t342).bind fun t345 => ((hornbeamref04_Compare.f k t336 t345).bind fun t348 => (some t348))))))))))
def hornbeamref05_Cmp.f (k : Nat) (a0_0 : Int) (a0_1 : Int) (a0_2 : Int) (a1_0 : Int) (a1_1 : Int) (a1_2 : Int) : Option (Int) := if a0_2 = 0 then (hornbeamref05_Cmp.j0 k (a1_2 == 0) a0_0 a0_1 a0_2 a1_0 a1_1 a1_2) else (hornbeamref05_Cmp.j0 k false a0_0 a0_1 a0_2 a1_0 a1_1 a1_2)
theorem hornbeamref05_Cmp.mono_l : ∀ k, (∀ y0 y1 y2 y3 y4 y5 y6, LeO (hornbeamref05_Cmp.j0 k y0 y1 y2 y3 y4 y5 y6) (hornbeamref05_Cmp.j0 (k + 1) y0 y1 y2 y3 y4 y5 y6))
 | 0 => fun _ _ _ _ _ _ _ r h => by simp [hornbeamref05_Cmp.j0] at h
 | k + 1 => by
  have ih0 := hornbeamref05_Cmp.mono_l k
  ·intro y0 y1 y2 y3 y4 y5 y6
   unfold hornbeamref05_Cmp.j0
   with_reducible repeat' first | apply ih0 | apply hornbeamref04_Compare.mono | apply hornbeamref04_Product.mono | apply LeO.refl | apply LeO.none | refine LeO.ite ?_ ?_ | refine LeO.bind ?_ (fun _ => ?_)
theorem hornbeamref05_Cmp.mono : ∀ a0 a1 a2 a3 a4 a5 k, LeO (hornbeamref05_Cmp.f k a0 a1 a2 a3 a4 a5) (hornbeamref05_Cmp.f (k + 1) a0 a1 a2 a3 a4 a5) := by
 intro a0 a1 a2 a3 a4 a5 k
 have ih0 := hornbeamref05_Cmp.mono_l k
 unfold hornbeamref05_Cmp.f
 with_reducible repeat' first | apply ih0 | apply hornbeamref04_Compare.mono | apply hornbeamref04_Product.mono | apply LeO.refl | apply LeO.none | refine LeO.ite ?_ ?_ | refine LeO.bind ?_ (fun _ => ?_)
def hornbeamref05_Cmp.T7 : Bool × List (List Nat × List Nat) := (true, [([], []), ([0], [0]), ([1], [1]), ([], []), ([3], [3]), ([4, 2], [4]), ([2, 5, 5], [2, 5]), ([], []), ([7], [7]), ([8, 6], [8]), ([], []), ([10], [10]), ([11, 9], [11]), ([9, 12, 12], [9, 12]), ([6, 13, 13], [6, 13]), ([14, 14, 0, 1, 2, 3, 4, 5, 6, 7, 8, 9, 10, 11, 12, 13, 14], [14])])
def hornbeamref05_Cmp.B7 : List Nat := [0, 1, 3, 0, 8, 31, 63, 0, 128, 511, 0, 1024, 4095, 8191, 16383, 32767]
theorem hornbeamref05_Cmp.tab7 : rtab .any (opsOf Try.f16 7) = hornbeamref05_Cmp.T7 := by kernel_rfl
theorem hornbeamref05_Cmp.bits7 : waitsOk hornbeamref05_Cmp.T7.2 hornbeamref05_Cmp.B7 = true := by kernel_rfl
set_option maxHeartbeats 8000000 in
set_option maxRecDepth 100000 in
theorem hornbeamref05_Cmp.calls (k : Nat) (av : Int) (aw : Int) (ab : Int) (an : Int) (ao : Int) (af : Int) (r : Int) (w : World) (h : hornbeamref05_Cmp.f k av aw ab an ao af = some r) :
  Calls Try.prog 16 #[.agg #[.int .u64 av, .int .u64 aw, .int .u64 ab], .agg #[.int .u64 an, .int .u64 ao, .int .u64 af]] w fun e w' => e = .returned (.int .i64 r) ∧ Below w.heap.size w w' := by
 have c0 := Try.underlying32
 have c2 := Try.underlying30
 have HB := aaM (Below.refl w.heap.size w)
 have H : (if ab = 0 then (hornbeamref05_Cmp.j0 k (af == 0) av aw ab an ao af) else (hornbeamref05_Cmp.j0 k false av aw ab an ao af)) = some r := h
 clear h
 have bd := aaM H
 clear H
 go_enter Try.func16, Try.ntmps16
 go_upto_region 1 with (first | ((with_reducible refine gate_dst (N := 2) rfl ?_); refine bxF w HB 2 #[.int .u64 av, .int .u64 aw, .int .u64 ab] 32 ?_; intro a9 hg w4 hb ac HB bs; have c3 := bs; clear hb hg) | ((with_reducible refine gate_dst (N := 3) rfl ?_); refine bxF w HB 3 #[.int .u64 an, .int .u64 ao, .int .u64 af] 32 ?_; intro ba hg w5 hb ae HB bt; have c4 := bt; obtain ⟨a6, a7⟩ := nS hg ac; replace ac := bY hb ac; clear hb hg))
 (try simp only [Act.put, ssB, ssZ, ssS])
 go_cut [12] (fun bu wc => ∃ (kq : Nat) (bb : Bool), bu = .bool bb ∧ Aside0 (hornbeamref05_Cmp.j0 kq bb av aw ab an ao af = some r) ∧ Aside0 (kq ≤ k) ∧ Aside0 (wc.heap[a9]? = some (.cells #[.int .u64 av, .int .u64 aw, .int .u64 ab] 32 (0, 0))) ∧ Aside0 (wc.heap[ba]? = some (.cells #[.int .u64 an, .int .u64 ao, .int .u64 af] 32 (0, 0))) ∧ Aside0 (Below w.heap.size w wc))
 case first =>
  have H := bd.out; clear bd
  by_cases c6 : ab = 0
  ·rw [if_pos c6] at H
   have c6b0 : (ab == 0) = true := beq_iff_eq.mpr c6; have c6b1 : (ab != 0) = false := bne_eq_false_iff_eq.mpr c6; clear c6; (first | rw [c6b0] | (simp only [i64_w, i32_w]; rw [c6b0]) | skip); have H' := aaM H; clear H; have := a6.out; have := a7.out; obtain ⟨bv, bw, bz, b0, b1, b2⟩ := bE3 ac.out; obtain ⟨b3, b4, b5, b6, b7, b8⟩ := bE3 ae.out; go_wp2
   go_meet
   case rel => exact ⟨_, ((af == 0)), (eF), H', ⟨by first | omega | exact Nat.le_refl _⟩, ⟨bZ ac⟩, ⟨bZ ae⟩, ⟨lB HB⟩⟩
  ·rw [if_neg c6] at H
   have c6b0 : (ab == 0) = false := beq_eq_false_iff_ne.mpr c6; have c6b1 : (ab != 0) = true := bne_iff_ne.mpr c6; (first | rw [c6b0] | (simp only [i64_w, i32_w]; rw [c6b0]) | skip); have H' := aaM H; clear H; have := a6.out; have := a7.out; obtain ⟨b9, ca, cb, cc, cd, ce⟩ := bE3 ac.out; go_wp2
   go_meet
   case rel => exact ⟨_, (false), (eF), H', ⟨by first | omega | exact Nat.le_refl _⟩, ⟨bZ ac⟩, ⟨bZ ae⟩, ⟨lB HB⟩⟩
 case rest =>
  clear bd; obtain ⟨kq, bb, rfl, HA, c8, ac, ae, HB⟩ := hcut
  cases kq with
  | zero => exact absurd HA.out (by simp [hornbeamref05_Cmp.j0])
  | succ ag =>
   have H := HA.out; clear HA; simp only [hornbeamref05_Cmp.j0] at H
   by_cases bc : bb = true
   ·subst bc
    have H1 : (some 0) = some r := by rw [if_pos rfl] at H; exact H
    clear H; have H := H1; clear H1; obtain rfl := Option.some.inj H; go_wp2
    all_goals (go_ret; exact ⟨by first | rfl | (simp [errW_none, errW_some] <;> rfl) | (simp [*, errW_none, errW_some] <;> rfl) | (simp_all; done), lB HB⟩)
   ·replace bc := Bool.eq_false_iff.mpr bc
    subst bc
    have H1 : (if ab = 0 then (some (-1)) else (if af = 0 then (some 1) else ((hornbeamref04_OfWide.f av aw).bind fun a2 => ((hornbeamref04_Digits.f af).bind fun a1 => ((hornbeamref04_Product.f ag a2 a1).bind fun aq => ((hornbeamref04_OfWide.f an ao).bind fun ar => ((hornbeamref04_Digits.f ab).bind fun ap => ((hornbeamref04_Product.f ag ar ap).bind fun ak => ((hornbeamref04_Compare.f ag aq ak).bind fun al => (some al)))))))))) = some r := by rw [if_neg (show ¬ (false = true) by decide)] at H; exact H
    clear H; have H := H1; clear H1
    by_cases a3 : ab = 0
    ·rw [if_pos a3] at H
     have c13b0 : (ab == 0) = true := beq_iff_eq.mpr a3; have c13b1 : (ab != 0) = false := bne_eq_false_iff_eq.mpr a3; clear a3; obtain rfl := Option.some.inj H; have := a6.out; have := a7.out; obtain ⟨_, _, _, _, _, _⟩ := bE3 ac.out; go_wp2
     all_goals (go_ret; exact ⟨by first | rfl | (simp [errW_none, errW_some] <;> rfl) | (simp [*, errW_none, errW_some] <;> rfl) | (simp_all; done), lB HB⟩)
    ·rw [if_neg a3] at H
     have c13b0 : (ab == 0) = false := beq_eq_false_iff_ne.mpr a3; have c13b1 : (ab != 0) = true := bne_iff_ne.mpr a3
     by_cases a4 : af = 0
     ·rw [if_pos a4] at H
      have c16b0 : (af == 0) = true := beq_iff_eq.mpr a4; have c16b1 : (af != 0) = false := bne_eq_false_iff_eq.mpr a4; clear a4; obtain rfl := Option.some.inj H; have := a6.out; have := a7.out; obtain ⟨_, _, _, _, _, _⟩ := bE3 ac.out; obtain ⟨_, _, _, _, _, _⟩ := bE3 ae.out; go_wp2
      all_goals (go_ret; exact ⟨by first | rfl | (simp [errW_none, errW_some] <;> rfl) | (simp [*, errW_none, errW_some] <;> rfl) | (simp_all; done), lB HB⟩)
     ·rw [if_neg a4] at H
      have c16b0 : (af == 0) = false := beq_eq_false_iff_ne.mpr a4; have c16b1 : (af != 0) = true := bne_iff_ne.mpr a4; replace H := ooB.mp H; obtain ⟨a2, bf, H⟩ := H; replace H : ((hornbeamref04_Digits.f af).bind fun a1 => ((hornbeamref04_Product.f ag a2 a1).bind fun aq => ((hornbeamref04_OfWide.f an ao).bind fun ar => ((hornbeamref04_Digits.f ab).bind fun ap => ((hornbeamref04_Product.f ag ar ap).bind fun ak => ((hornbeamref04_Compare.f ag aq ak).bind fun al => (some al))))))) = some r := H; have cf := aaM bf; clear bf; replace H := ooB.mp H; obtain ⟨a1, bg, H⟩ := H; replace H : ((hornbeamref04_Product.f ag a2 a1).bind fun aq => ((hornbeamref04_OfWide.f an ao).bind fun ar => ((hornbeamref04_Digits.f ab).bind fun ap => ((hornbeamref04_Product.f ag ar ap).bind fun ak => ((hornbeamref04_Compare.f ag aq ak).bind fun al => (some al)))))) = some r := H; have cg := aaM bg; clear bg; replace H := ooB.mp H; obtain ⟨aq, bh, H⟩ := H; replace H : ((hornbeamref04_OfWide.f an ao).bind fun ar => ((hornbeamref04_Digits.f ab).bind fun ap => ((hornbeamref04_Product.f ag ar ap).bind fun ak => ((hornbeamref04_Compare.f ag aq ak).bind fun al => (some al))))) = some r := H; have ch := aaM bh; clear bh; replace H := ooB.mp H; obtain ⟨ar, bi, H⟩ := H; replace H : ((hornbeamref04_Digits.f ab).bind fun ap => ((hornbeamref04_Product.f ag ar ap).bind fun ak => ((hornbeamref04_Compare.f ag aq ak).bind fun al => (some al)))) = some r := H; have ci := aaM bi; clear bi; replace H := ooB.mp H; obtain ⟨ap, bj, H⟩ := H; replace H : ((hornbeamref04_Product.f ag ar ap).bind fun ak => ((hornbeamref04_Compare.f ag aq ak).bind fun al => (some al))) = some r := H; have cj := aaM bj; clear bj; replace H := ooB.mp H; obtain ⟨ak, bk, H⟩ := H; replace H : ((hornbeamref04_Compare.f ag aq ak).bind fun al => (some al)) = some r := H; have ck := aaM bk; clear bk; replace H := ooB.mp H; obtain ⟨al, bl, H⟩ := H; (try dsimp only at H); have cl := aaM bl; clear bl; obtain rfl := Option.some.inj H; have := a6.out; have := a7.out; obtain ⟨_, _, _, _, _, _⟩ := bE3 ac.out; obtain ⟨_, _, _, _, _, _⟩ := bE3 ae.out; (try go_wp2); replace ac := aaM (bD ac.out); replace ae := aaM (bD ae.out); replace HB := aaM (lD HB.out)
      refine start_ (n := 16) (S := fun w' => w'.cell? ⟨a9, 0, none⟩ = some (.int .u64 av) ∧ w'.cell? ⟨a9, 1, none⟩ = some (.int .u64 aw) ∧ w'.cell? ⟨a9, 2, none⟩ = some (.int .u64 ab) ∧ w'.cell? ⟨ba, 0, none⟩ = some (.int .u64 an) ∧ w'.cell? ⟨ba, 1, none⟩ = some (.int .u64 ao) ∧ w'.cell? ⟨ba, 2, none⟩ = some (.int .u64 af)) (ds := []) _ (by kernel_rfl) rfl rfl hD (fun hHeld => ?_); refine with_tabW hornbeamref05_Cmp.tab7 hornbeamref05_Cmp.bits7 (fun HT_ HW_ => ?_); generalize wc.drew = c9 at ac ae HB hHeld ⊢; refine pU 0 19 (qB 16 1) HT_ ?_
      refine pU 3 22 (qB 16 9) HT_ ?_
      refine pU 7 26 (qB 16 137) HT_ ?_
      refine pU 10 29 (qB 16 1161) HT_ ?_
      refine tU 1 20 (qB 16 1163) HT_ HW_ hHeld ?_
      refine tU 4 23 (qB 16 1179) HT_ HW_ hHeld ?_
      refine tU 8 27 (qB 16 1435) HT_ HW_ hHeld ?_
      refine tU 11 30 (qB 16 3483) HT_ HW_ hHeld ?_
      refine oU 2 (some 21) (qB 16 3487) HT_ (fun K hK => ?_); refine gU Try.func31 #[.agg #[.int .u64 av, .int .u64 aw]] ?_; (with_reducible refine (hornbeamref04_OfWide.calls av aw a2 _ cf.out).mono ?_); rintro e da ⟨db, rfl, aa, hb⟩; refine ⟨_, rfl, ?_⟩; have ah := aaM (Kd.R_lower aa (lZ (lB HB))); replace ac := bY hb ac; replace ae := bY hb ae; replace HB := aaM (lP (lB HB) hb); (try clear hb); (try clear aa); refine hK.out _ _ hD (fun hHeld => ?_); clear hK K; refine nU 21 ?_
      refine oU 5 (some 24) (qB 16 3519) HT_ (fun K hK => ?_); refine gU Try.func32 #[.int .u64 af] ?_; (with_reducible refine (hornbeamref04_Digits.calls af a1 _ cg.out).mono ?_); rintro e dc ⟨dd, rfl, aa, hb⟩; refine ⟨_, rfl, ?_⟩; have am := aaM (Kd.R_lower (Kd.R_new' aa (Kd.R_lt (rZ ah))) (lZ (lB HB))); replace ah := aaM (Kd.R_elder' (rZ ah) (Kd.R_base aa) hb); replace ac := bY hb ac; replace ae := bY hb ae; replace HB := aaM (lP (lB HB) hb); (try clear hb); (try clear aa); obtain ⟨cm, cn, bm⟩ := Kd.R_slice ah.out; (first | subst bm | (injection bm with ai ax aj; have ay := ai.symm; have az := aj.symm; clear ai ax aj; subst ay; subst az)); obtain ⟨cp, cq, bn⟩ := Kd.R_slice am.out; (first | subst bn | (injection bn with ai ax aj; have ay := ai.symm; have az := aj.symm; clear ai ax aj; subst ay; subst az)); refine hK.out _ _ hD (fun hHeld => ?_); clear hK K; refine nU 24 ?_
      refine oU 6 (some 25) (qB 16 3583) HT_ (fun K hK => ?_); refine gU Try.func30 #[.slice cm a2.length cn, .slice cp a1.length cq] ?_; (with_reducible refine (hornbeamref04_Product.calls ag _ _ a2 _ _ a1 aq _ ?side1 ?side2 ?side3 ?side4 ch.out).mono ?_); (case side1 => repeat (first | exact (Kd.R_reads' ah.out).2.2 | (with_reducible refine ccA ?_ _) | (with_reducible refine ccN ?_ _) | (with_reducible refine ccD ?_))); (case side2 => exact (Kd.R_reads' ah.out).2.1); (case side3 => repeat (first | exact (Kd.R_reads' am.out).2.2 | (with_reducible refine ccA ?_ _) | (with_reducible refine ccN ?_ _) | (with_reducible refine ccD ?_))); (case side4 => exact (Kd.R_reads' am.out).2.1); rintro e de ⟨df, rfl, aa, hb⟩; refine ⟨_, rfl, ?_⟩; have au := aaM (Kd.R_lower (Kd.R_new' (Kd.R_new' aa (Kd.R_lt (rZ ah))) (Kd.R_lt (rZ am))) (lZ (lB HB))); replace ah := aaM (Kd.R_elder' (rZ ah) (Kd.R_base aa) hb); replace am := aaM (Kd.R_elder' (rZ am) (Kd.R_base aa) hb); replace ac := bY hb ac; replace ae := bY hb ae; replace HB := aaM (lP (lB HB) hb); (try clear hb); (try clear aa); refine hK.out _ _ hD (fun hHeld => ?_); clear hK K; refine nU 25 ?_
      refine oU 9 (some 28) (qB 16 4095) HT_ (fun K hK => ?_); refine gU Try.func31 #[.agg #[.int .u64 an, .int .u64 ao]] ?_; (with_reducible refine (hornbeamref04_OfWide.calls an ao ar _ ci.out).mono ?_); rintro e dg ⟨dh, rfl, aa, hb⟩; refine ⟨_, rfl, ?_⟩; have a0 := aaM (Kd.R_lower (Kd.R_new' (Kd.R_new' (Kd.R_new' aa (Kd.R_lt (rZ ah))) (Kd.R_lt (rZ am))) (Kd.R_lt (rZ au))) (lZ (lB HB))); replace ah := aaM (Kd.R_elder' (rZ ah) (Kd.R_base aa) hb); replace am := aaM (Kd.R_elder' (rZ am) (Kd.R_base aa) hb); replace au := aaM (Kd.R_elder' (rZ au) (Kd.R_base aa) hb); replace ac := bY hb ac; replace ae := bY hb ae; replace HB := aaM (lP (lB HB) hb); (try clear hb); (try clear aa); refine hK.out _ _ hD (fun hHeld => ?_); clear hK K; refine nU 28 ?_
      refine oU 12 (some 31) (qB 16 8191) HT_ (fun K hK => ?_); refine gU Try.func32 #[.int .u64 ab] ?_; (with_reducible refine (hornbeamref04_Digits.calls ab ap _ cj.out).mono ?_); rintro e di ⟨dj, rfl, aa, hb⟩; refine ⟨_, rfl, ?_⟩; have a5 := aaM (Kd.R_lower (Kd.R_new' (Kd.R_new' (Kd.R_new' (Kd.R_new' aa (Kd.R_lt (rZ ah))) (Kd.R_lt (rZ am))) (Kd.R_lt (rZ au))) (Kd.R_lt (rZ a0))) (lZ (lB HB))); replace ah := aaM (Kd.R_elder' (rZ ah) (Kd.R_base aa) hb); replace am := aaM (Kd.R_elder' (rZ am) (Kd.R_base aa) hb); replace au := aaM (Kd.R_elder' (rZ au) (Kd.R_base aa) hb); replace a0 := aaM (Kd.R_elder' (rZ a0) (Kd.R_base aa) hb); replace ac := bY hb ac; replace ae := bY hb ae; replace HB := aaM (lP (lB HB) hb); (try clear hb); (try clear aa); obtain ⟨cr, ct, bo⟩ := Kd.R_slice a0.out; (first | subst bo | (injection bo with ai ax aj; have ay := ai.symm; have az := aj.symm; clear ai ax aj; subst ay; subst az)); obtain ⟨cu, cv, bp⟩ := Kd.R_slice a5.out; (first | subst bp | (injection bp with ai ax aj; have ay := ai.symm; have az := aj.symm; clear ai ax aj; subst ay; subst az)); refine hK.out _ _ hD (fun hHeld => ?_); clear hK K; refine nU 31 ?_
      refine oU 13 (some 32) (qB 16 16383) HT_ (fun K hK => ?_); refine gU Try.func30 #[.slice cr ar.length ct, .slice cu ap.length cv] ?_; (with_reducible refine (hornbeamref04_Product.calls ag _ _ ar _ _ ap ak _ ?side1 ?side2 ?side3 ?side4 ck.out).mono ?_); (case side1 => repeat (first | exact (Kd.R_reads' a0.out).2.2 | (with_reducible refine ccA ?_ _) | (with_reducible refine ccN ?_ _) | (with_reducible refine ccD ?_))); (case side2 => exact (Kd.R_reads' a0.out).2.1); (case side3 => repeat (first | exact (Kd.R_reads' a5.out).2.2 | (with_reducible refine ccA ?_ _) | (with_reducible refine ccN ?_ _) | (with_reducible refine ccD ?_))); (case side4 => exact (Kd.R_reads' a5.out).2.1); rintro e dk ⟨dl, rfl, aa, hb⟩; refine ⟨_, rfl, ?_⟩; have be := aaM (Kd.R_lower (Kd.R_new' (Kd.R_new' (Kd.R_new' (Kd.R_new' (Kd.R_new' aa (Kd.R_lt (rZ ah))) (Kd.R_lt (rZ am))) (Kd.R_lt (rZ au))) (Kd.R_lt (rZ a0))) (Kd.R_lt (rZ a5))) (lZ (lB HB))); replace ah := aaM (Kd.R_elder' (rZ ah) (Kd.R_base aa) hb); replace am := aaM (Kd.R_elder' (rZ am) (Kd.R_base aa) hb); replace au := aaM (Kd.R_elder' (rZ au) (Kd.R_base aa) hb); replace a0 := aaM (Kd.R_elder' (rZ a0) (Kd.R_base aa) hb); replace a5 := aaM (Kd.R_elder' (rZ a5) (Kd.R_base aa) hb); replace ac := bY hb ac; replace ae := bY hb ae; replace HB := aaM (lP (lB HB) hb); (try clear hb); (try clear aa); obtain ⟨cw, cx, bq⟩ := Kd.R_slice au.out; (first | subst bq | (injection bq with ai ax aj; have ay := ai.symm; have az := aj.symm; clear ai ax aj; subst ay; subst az))
      obtain ⟨cy, cz, br⟩ := Kd.R_slice be.out; (first | subst br | (injection br with ai ax aj; have ay := ai.symm; have az := aj.symm; clear ai ax aj; subst ay; subst az)); refine hK.out _ _ hD (fun hHeld => ?_); clear hK K; refine nU 32 ?_
      refine oU 14 (some 33) (qB 16 32767) HT_ (fun K hK => ?_); refine gU Try.func29 #[.slice cw aq.length cx, .slice cy ak.length cz] ?_; (with_reducible refine (hornbeamref04_Compare.calls ag _ _ aq _ _ ak al _ ?side1 ?side2 ?side3 ?side4 cl.out).mono ?_); (case side1 => repeat (first | exact (Kd.R_reads' au.out).2.2 | (with_reducible refine ccA ?_ _) | (with_reducible refine ccN ?_ _) | (with_reducible refine ccD ?_))); (case side2 => exact (Kd.R_reads' au.out).2.1); (case side3 => repeat (first | exact (Kd.R_reads' be.out).2.2 | (with_reducible refine ccA ?_ _) | (with_reducible refine ccN ?_ _) | (with_reducible refine ccD ?_))); (case side4 => exact (Kd.R_reads' be.out).2.1); rintro e w' ⟨rfl, ⟨nd, rfl⟩⟩; refine ⟨_, rfl, ?_⟩; refine hK.out _ _ hD (fun hHeld => ?_); clear hK K; refine nU 33 ?_
      refine pU 15 4 (qB 16 65535) HT_ ?_
      refine done_ (done_of HT_.out (by kernel_rfl)) ?_; (try go_wp2)
      all_goals (go_ret; exact ⟨by first | rfl | (simp [errW_none, errW_some] <;> rfl) | (simp [*, errW_none, errW_some] <;> rfl) | (simp_all; done), lB HB⟩)

/-! ### hornbeamref04_Size: function 55 -/
def hornbeamref04_Size.f (a0 : Int) : Option (Int) := if a0 ≥ 0 then (some (IntKind.u64.wrap (a0))) else (some (IntKind.u64.wrap ((IntKind.u64.wrap (wrap64 (-(wrap64 (a0 + 1))))) + 1)))
set_option maxHeartbeats 8000000 in
set_option maxRecDepth 100000 in
theorem hornbeamref04_Size.calls (a0 : Int) (r : Int) (w : World) (h : hornbeamref04_Size.f a0 = some r) :
  Calls Try.prog 55 #[.int .i64 a0] w fun e w' => e = .returned (.int .u64 r) ∧ Drawn0 w w' := by
 have H : (if a0 ≥ 0 then (some (IntKind.u64.wrap (a0))) else (some (IntKind.u64.wrap ((IntKind.u64.wrap (wrap64 (-(wrap64 (a0 + 1))))) + 1)))) = some r := h
 clear h
 by_cases c2 : a0 ≥ 0
 ·rw [if_pos c2] at H
  have c2b0 : decide (0 ≤ a0) = true := decide_eq_true c2; clear c2; obtain rfl := Option.some.inj H; go_enter Try.func55, Try.ntmps55; go_wp2
  all_goals (go_ret; exact ⟨eF, by repeat (first | exact Drawn0.refl _ | apply Drawn0.step)⟩)
 ·rw [if_neg c2] at H
  have c2b0 : decide (0 ≤ a0) = false := decide_eq_false c2; clear c2; obtain rfl := Option.some.inj H; go_enter Try.func55, Try.ntmps55; go_wp2
  all_goals (go_ret; exact ⟨eF, by repeat (first | exact Drawn0.refl _ | apply Drawn0.step)⟩)

/-! ### hornbeamref04_number: function 58 -/
def hornbeamref04_number.f (l0 : List Int) : Option (Int) := if 0 < (l0.length : Int) then (if 1 < (l0.length : Int) then (if 2 < (l0.length : Int) then (if 3 < (l0.length : Int) then (some (IntKind.u64.wrap ((IntKind.u64.wrap ((IntKind.u64.wrap ((rd l0 0) + (IntKind.u64.wrap ((rd l0 1) * 65536)))) + (IntKind.u64.wrap ((rd l0 2) * 4294967296)))) + (IntKind.u64.wrap ((rd l0 3) * 281474976710656))))) else (none)) else (none)) else (none)) else (none)
set_option maxHeartbeats 8000000 in
set_option maxRecDepth 100000 in
theorem hornbeamref04_number.calls (A0 : Option Addr) (c0 : Nat) (l0 : List Int) (r : Int) (w : World) (al : Kd.C (Kd.int .u64) w A0 l0.length l0) (am : l0.length ≤ c0) (h : hornbeamref04_number.f l0 = some r) :
  Calls Try.prog 58 #[.slice A0 l0.length c0] w fun e w' => e = .returned (.int .u64 r) ∧ Drawn0 w w' := by
 have aa := aaM al
 have a0 := aaM am
 clear al am
 have H : (if 0 < (l0.length : Int) then (if 1 < (l0.length : Int) then (if 2 < (l0.length : Int) then (if 3 < (l0.length : Int) then (some (IntKind.u64.wrap ((IntKind.u64.wrap ((IntKind.u64.wrap ((rd l0 0) + (IntKind.u64.wrap ((rd l0 1) * 65536)))) + (IntKind.u64.wrap ((rd l0 2) * 4294967296)))) + (IntKind.u64.wrap ((rd l0 3) * 281474976710656))))) else (none)) else (none)) else (none)) else (none)) = some r := h
 clear h
 by_cases c2 : 0 < (l0.length : Int)
 ·rw [if_pos c2] at H
  have c2b0 : decide (0 < (l0.length : Int)) = true := decide_eq_true c2; have c2b1 : decide (0 < l0.length) = true := decide_eq_true (by omega); clear c2
  by_cases c3 : 1 < (l0.length : Int)
  ·rw [if_pos c3] at H
   have c3b0 : decide (1 < (l0.length : Int)) = true := decide_eq_true c3; have c3b1 : decide (1 < l0.length) = true := decide_eq_true (by omega); clear c3
   by_cases c4 : 2 < (l0.length : Int)
   ·rw [if_pos c4] at H
    have c4b0 : decide (2 < (l0.length : Int)) = true := decide_eq_true c4; have c4b1 : decide (2 < l0.length) = true := decide_eq_true (by omega); clear c4
    by_cases c5 : 3 < (l0.length : Int)
    ·rw [if_pos c5] at H
     have c5b0 : decide (3 < (l0.length : Int)) = true := decide_eq_true c5; have c5b1 : decide (3 < l0.length) = true := decide_eq_true (by omega); clear c5; obtain rfl := Option.some.inj H; have ab : 0 ≤ (0 : Int) := (by omega); have ac : 0 < (l0.length : Int) := of_decide_eq_true (by first | (with_reducible assumption) | assumption); obtain ⟨ae, ar, an⟩ := Kd.at_int aa.out 0 ab ac
     cases ar
     have a1 : (0 < l0.length) = True := eq_true (by omega); (try rw [show ((0 : Int)).toNat = 0 from rfl] at an); (try rw [Addr.add_zero'] at an); replace ab := eq_true ab; replace ac := eq_true ac; have af : 0 ≤ (1 : Int) := (by omega); have ag : 1 < (l0.length : Int) := of_decide_eq_true (by first | (with_reducible assumption) | assumption); obtain ⟨au, av, ao⟩ := Kd.at_int aa.out 1 af ag; obtain rfl : ae = au := (by injection av); (try simp only [show (1 : Int).toNat = 1 from rfl, Nat.reduceMul, Nat.reduceEqDiff, Go.Addr.add, ↓reduceIte] at ao); have a2 : (1 < l0.length) = True := eq_true (by omega); (try rw [show ((1 : Int)).toNat = 1 from rfl] at ao); replace af := eq_true af; replace ag := eq_true ag; have ah : 0 ≤ (2 : Int) := (by omega); have ai : 2 < (l0.length : Int) := of_decide_eq_true (by first | (with_reducible assumption) | assumption); obtain ⟨aw, ax, ap⟩ := Kd.at_int aa.out 2 ah ai; obtain rfl : ae = aw := (by injection ax); (try simp only [show (2 : Int).toNat = 2 from rfl, Nat.reduceMul, Nat.reduceEqDiff, Go.Addr.add, ↓reduceIte] at ap); have a3 : (2 < l0.length) = True := eq_true (by omega); (try rw [show ((2 : Int)).toNat = 2 from rfl] at ap); replace ah := eq_true ah; replace ai := eq_true ai; have aj : 0 ≤ (3 : Int) := (by omega); have ak : 3 < (l0.length : Int) := of_decide_eq_true (by first | (with_reducible assumption) | assumption); obtain ⟨ay, az, aq⟩ := Kd.at_int aa.out 3 aj ak; obtain rfl : ae = ay := (by injection az); (try simp only [show (3 : Int).toNat = 3 from rfl, Nat.reduceMul, Nat.reduceEqDiff, Go.Addr.add, ↓reduceIte] at aq); have a4 : (3 < l0.length) = True := eq_true (by omega); (try rw [show ((3 : Int)).toNat = 3 from rfl] at aq); replace aj := eq_true aj; replace ak := eq_true ak; go_enter Try.func58, Try.ntmps58; go_wp2
     repeat (go_quiet (fail); try go_wp2)
     all_goals (go_ret; exact ⟨eF, by repeat (first | exact Drawn0.refl _ | apply Drawn0.step)⟩)
    ·rw [if_neg c5] at H
     exact absurd H (by simp)
   ·rw [if_neg c4] at H
    exact absurd H (by simp)
  ·rw [if_neg c3] at H
   exact absurd H (by simp)
 ·rw [if_neg c2] at H
  exact absurd H (by simp)

end Go.Proofs.Ytancajnbjmcamaa.QSplitBest
