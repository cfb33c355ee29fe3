-- Written by a program of this session (wip/tools/mkprint.py over the kit's print); Lean checks it.
import Derived.Test.YtancajnbjmcamaaQSplitTimesx0
namespace Go.Proofs.Ytancajnbjmcamaa.QSplitTimes
open Go.RowKit Go.Proofs.YtancajnbjmcamaaW.PrintWords Go.Proofs.YtancajnbjmcamaaW.PrintLast Go.Proofs.YtancajnbjmcamaaW.PrintMore
attribute [local go_sem] max2_int min2_int max_two min_two max_three min_three max_four min_four   -- for this text's walks alone
set_option linter.unusedVariables false
set_option linter.unusedSimpArgs false

/-! ### hornbeamlaw16_great: function 12 -/
def hornbeamlaw16_great.l0 : Nat → List (S25) → Int → Int → Option (Bool)
 | 0, _, _, _ => none
 | k + 1, x8, x9, x10 => if x10 < x9 then (if 0 ≤ x10 then (if x10 < (x8.length : Int) then (if (((rd_T25 x8 x10).f3).length : Int) > 100 then (some true) else (if (((rd_T25 x8 x10).f4).length : Int) > 20 then (some true) else (hornbeamlaw16_great.l0 k x8 x9 (wrap64 (x10 + 1))))) else (none)) else (none)) else (some false)
def hornbeamlaw16_great.f (k : Nat) (l0 : List (S25)) : Option (Bool) := if (l0.length : Int) > 8 then (some true) else (hornbeamlaw16_great.l0 k l0 (l0.length : Int) 0)
theorem hornbeamlaw16_great.mono_l : ∀ k, (∀ y0 y1 y2, LeO (hornbeamlaw16_great.l0 k y0 y1 y2) (hornbeamlaw16_great.l0 (k + 1) y0 y1 y2))
 | 0 => fun _ _ _ r h => by simp [hornbeamlaw16_great.l0] at h
 | k + 1 => by
  have ih0 := hornbeamlaw16_great.mono_l k
  ·intro y0 y1 y2
   unfold hornbeamlaw16_great.l0
   repeat' first
   | (with_reducible exact ih0 _ _ _)
   | (with_reducible exact LeO.refl _)
   | (with_reducible exact LeO.none _)
   | (with_reducible refine LeO.ite ?_ ?_)
   | (with_reducible refine LeO.bind ?_ (fun _ => ?_))
   | exact ih0 _ _ _
   | exact LeO.none _
   | refine LeO.ite ?_ ?_
   | refine LeO.bind ?_ (fun _ => ?_)
theorem hornbeamlaw16_great.mono : ∀ a0 k, LeO (hornbeamlaw16_great.f k a0) (hornbeamlaw16_great.f (k + 1) a0) := by
 intro a0 k
 have ih0 := hornbeamlaw16_great.mono_l k
 unfold hornbeamlaw16_great.f
 repeat' first
   | (with_reducible exact ih0 _ _ _)
   | (with_reducible exact LeO.refl _)
   | (with_reducible exact LeO.none _)
   | (with_reducible refine LeO.ite ?_ ?_)
   | (with_reducible refine LeO.bind ?_ (fun _ => ?_))
   | exact ih0 _ _ _
   | exact LeO.none _
   | refine LeO.ite ?_ ?_
   | refine LeO.bind ?_ (fun _ => ?_)
set_option maxHeartbeats 8000000 in
set_option maxRecDepth 100000 in
theorem hornbeamlaw16_great.calls (k : Nat) (A0 : Option Addr) (c0 : Nat) (l0 : List (S25)) (r : Bool) (w : World) (hr0 : Kd.C k25 w A0 l0.length l0) (hc0 : l0.length ≤ c0) (h : hornbeamlaw16_great.f k l0 = some r) :
  Calls Try.prog 12 #[.slice A0 l0.length c0] w fun e w' => e = .returned (.bool r) ∧ Below w.heap.size w w' := by
 have hu25 := Try.underlying25
 have HR0 := aaM hr0
 have HC0 := aaM hc0
 clear hr0 hc0
 have HB := aaM (Below.refl w.heap.size w)
 have H : (if (l0.length : Int) > 8 then (some true) else (hornbeamlaw16_great.l0 k l0 (l0.length : Int) 0)) = some r := h
 clear h
 by_cases c2 : (l0.length : Int) > 8
 ·rw [if_pos c2] at H
  have c2b0 : decide (8 < (l0.length : Int)) = true := decide_eq_true c2; have c2b1 : decide (8 < l0.length) = true := decide_eq_true (by omega); clear c2; obtain rfl := Option.some.inj H; go_enter Try.func12, Try.ntmps12; go_wp2
  all_goals (go_ret; exact ⟨by first | rfl | (simp [errW_none, errW_some] <;> rfl) | (simp [*, errW_none, errW_some] <;> rfl) | (simp_all; done), lB HB⟩)
 ·rw [if_neg c2] at H
  have c2b0 : decide (8 < (l0.length : Int)) = false := decide_eq_false c2; have c2b1 : decide (8 < l0.length) = false := decide_eq_false (by omega); clear c2; have H' := aaM H; clear H; go_enter Try.func12, Try.ntmps12; go_wp2
  go_loopg [10] k (fun kq v10 w' => ∃ (x10_1 : Int), v10 = .int .i64 x10_1 ∧ Aside0 (hornbeamlaw16_great.l0 kq l0 (l0.length : Int) x10_1 = some r) ∧ Aside0 (kq ≤ k) ∧ Aside0 (Below w.heap.size w w'))
  case atStart => exact ⟨(0), (eF), H', ⟨Nat.le_refl _⟩, ⟨lB HB⟩⟩
  case round =>
   clear H'; (try clear c1); (try clear c2); (try clear c2b0); (try clear c2b1); (try clear p2); obtain ⟨x10_1, rfl, HA, HK1, HB⟩ := hrel
   cases gk with
   | zero => exact absurd HA.out (by simp [hornbeamlaw16_great.l0])
   | succ k1 =>
    have H := HA.out; clear HA; simp only [hornbeamlaw16_great.l0] at H
    by_cases c3 : x10_1 < (l0.length : Int)
    ·rw [if_pos c3] at H
     have c3b0 : decide (x10_1 < (l0.length : Int)) = true := decide_eq_true c3; clear c3
     by_cases c4 : 0 ≤ x10_1
     ·rw [if_pos c4] at H
      have c4b0 : decide (0 ≤ x10_1) = true := decide_eq_true c4; clear c4
      by_cases c5 : x10_1 < (l0.length : Int)
      ·rw [if_pos c5] at H
       have c5b0 : decide (x10_1 < (l0.length : Int)) = true := decide_eq_true c5; clear c5
       by_cases c6 : (((rd_T25 l0 x10_1).f3).length : Int) > 100
       ·rw [if_pos c6] at H
        have c6b0 : decide (100 < (((rd_T25 l0 x10_1).f3).length : Int)) = true := decide_eq_true c6; have c6b1 : decide (100 < ((rd_T25 l0 x10_1).f3).length) = true := decide_eq_true (by omega); clear c6; obtain rfl := Option.some.inj H; have p299 : 0 ≤ (x10_1 : Int) := of_decide_eq_true (by first | (with_reducible assumption) | assumption); have q299 : x10_1 < (l0.length : Int) := of_decide_eq_true (by first | (with_reducible assumption) | assumption); obtain ⟨ad299, A299_3, c299_3, A299_4, c299_4, e299, hx299_0, hx299_1, hx299_2, hx299_3, hx299_4, hl299_3, hi299_3, hl299_4, hi299_4⟩ := at_T25 HR0.out x10_1 p299 q299
        cases e299
        replace hx299_0 := (HB.out.cell (World.block_lt_of_cell? w _ hx299_0)).trans hx299_0; replace hx299_1 := (HB.out.cell (World.block_lt_of_cell? w _ hx299_1)).trans hx299_1; replace hx299_2 := (HB.out.cell (World.block_lt_of_cell? w _ hx299_2)).trans hx299_2; replace hx299_3 := (HB.out.cell (World.block_lt_of_cell? w _ hx299_3)).trans hx299_3; replace hx299_4 := (HB.out.cell (World.block_lt_of_cell? w _ hx299_4)).trans hx299_4; have HR299_3 := aaM hi299_3; have HC299_3 := aaM hl299_3; clear hi299_3 hl299_3; have HR299_4 := aaM hi299_4; have HC299_4 := aaM hl299_4; clear hi299_4 hl299_4; replace p299 := eq_true p299; replace q299 := eq_true q299
        go_wp2_with (first | ((with_reducible refine gate_dst (N := 4) rfl ?_); (try (refine gate_guard (by rfl) ?_; dsimp only)); refine bxF w HB 4 #[.int .i64 0, .int .i64 0, .int .i64 0, .slice none 0 0, .slice none 0 0] 25 ?_; intro gb300 hg w7 hb BK300 HB GE300; have GW300 := GE300; clear hb hg; obtain ⟨_, _, _, _, _, _, _, _, _, _⟩ := bE5 BK300.out))
        all_goals (go_ret; exact ⟨by first | rfl | (simp [errW_none, errW_some] <;> rfl) | (simp [*, errW_none, errW_some] <;> rfl) | (simp_all; done), lB HB⟩)
       ·rw [if_neg c6] at H
        have c6b0 : decide (100 < (((rd_T25 l0 x10_1).f3).length : Int)) = false := decide_eq_false c6; have c6b1 : decide (100 < ((rd_T25 l0 x10_1).f3).length) = false := decide_eq_false (by omega); clear c6
        by_cases c9 : (((rd_T25 l0 x10_1).f4).length : Int) > 20
        ·rw [if_pos c9] at H
         have c9b0 : decide (20 < (((rd_T25 l0 x10_1).f4).length : Int)) = true := decide_eq_true c9; have c9b1 : decide (20 < ((rd_T25 l0 x10_1).f4).length) = true := decide_eq_true (by omega); clear c9; obtain rfl := Option.some.inj H; have p299 : 0 ≤ (x10_1 : Int) := of_decide_eq_true (by first | (with_reducible assumption) | assumption); have q299 : x10_1 < (l0.length : Int) := of_decide_eq_true (by first | (with_reducible assumption) | assumption); obtain ⟨ad299, A299_3, c299_3, A299_4, c299_4, e299, hx299_0, hx299_1, hx299_2, hx299_3, hx299_4, hl299_3, hi299_3, hl299_4, hi299_4⟩ := at_T25 HR0.out x10_1 p299 q299
         cases e299
         replace hx299_0 := (HB.out.cell (World.block_lt_of_cell? w _ hx299_0)).trans hx299_0; replace hx299_1 := (HB.out.cell (World.block_lt_of_cell? w _ hx299_1)).trans hx299_1; replace hx299_2 := (HB.out.cell (World.block_lt_of_cell? w _ hx299_2)).trans hx299_2; replace hx299_3 := (HB.out.cell (World.block_lt_of_cell? w _ hx299_3)).trans hx299_3; replace hx299_4 := (HB.out.cell (World.block_lt_of_cell? w _ hx299_4)).trans hx299_4; have HR299_3 := aaM hi299_3; have HC299_3 := aaM hl299_3; clear hi299_3 hl299_3; have HR299_4 := aaM hi299_4; have HC299_4 := aaM hl299_4; clear hi299_4 hl299_4; replace p299 := eq_true p299; replace q299 := eq_true q299
         go_wp2_with (first | ((with_reducible refine gate_dst (N := 4) rfl ?_); (try (refine gate_guard (by rfl) ?_; dsimp only)); refine bxF w HB 4 #[.int .i64 0, .int .i64 0, .int .i64 0, .slice none 0 0, .slice none 0 0] 25 ?_; intro gb300 hg w10 hb BK300 HB GE300; have GW300 := GE300; clear hb hg; obtain ⟨_, _, _, _, _, _, _, _, _, _⟩ := bE5 BK300.out))
         all_goals (go_ret; exact ⟨by first | rfl | (simp [errW_none, errW_some] <;> rfl) | (simp [*, errW_none, errW_some] <;> rfl) | (simp_all; done), lB HB⟩)
        ·rw [if_neg c9] at H
         have c9b0 : decide (20 < (((rd_T25 l0 x10_1).f4).length : Int)) = false := decide_eq_false c9; have c9b1 : decide (20 < ((rd_T25 l0 x10_1).f4).length) = false := decide_eq_false (by omega); clear c9; have H' := aaM H; clear H; have p299 : 0 ≤ (x10_1 : Int) := of_decide_eq_true (by first | (with_reducible assumption) | assumption); have q299 : x10_1 < (l0.length : Int) := of_decide_eq_true (by first | (with_reducible assumption) | assumption); obtain ⟨ad299, A299_3, c299_3, A299_4, c299_4, e299, hx299_0, hx299_1, hx299_2, hx299_3, hx299_4, hl299_3, hi299_3, hl299_4, hi299_4⟩ := at_T25 HR0.out x10_1 p299 q299
         cases e299
         replace hx299_0 := (HB.out.cell (World.block_lt_of_cell? w _ hx299_0)).trans hx299_0; replace hx299_1 := (HB.out.cell (World.block_lt_of_cell? w _ hx299_1)).trans hx299_1; replace hx299_2 := (HB.out.cell (World.block_lt_of_cell? w _ hx299_2)).trans hx299_2; replace hx299_3 := (HB.out.cell (World.block_lt_of_cell? w _ hx299_3)).trans hx299_3; replace hx299_4 := (HB.out.cell (World.block_lt_of_cell? w _ hx299_4)).trans hx299_4; have HR299_3 := aaM hi299_3; have HC299_3 := aaM hl299_3; clear hi299_3 hl299_3; have HR299_4 := aaM hi299_4; have HC299_4 := aaM hl299_4; clear hi299_4 hl299_4; replace p299 := eq_true p299; replace q299 := eq_true q299
         go_wp2_with (first | ((with_reducible refine gate_dst (N := 4) rfl ?_); (try (refine gate_guard (by rfl) ?_; dsimp only)); refine bxF w HB 4 #[.int .i64 0, .int .i64 0, .int .i64 0, .slice none 0 0, .slice none 0 0] 25 ?_; intro gb300 hg w12 hb BK300 HB GE300; have GW300 := GE300; clear hb hg; obtain ⟨_, _, _, _, _, _, _, _, _, _⟩ := bE5 BK300.out))
         go_roundg k1
         case measure => have := HK1.out; omega
         case rel => exact ⟨(wrap64 (x10_1 + 1)), (eF), H', ⟨by have := HK1.out; omega⟩, ⟨lB HB⟩⟩
      ·rw [if_neg c5] at H
       exact absurd H (by simp)
     ·rw [if_neg c4] at H
      exact absurd H (by simp)
    ·rw [if_neg c3] at H
     have c3b0 : decide (x10_1 < (l0.length : Int)) = false := decide_eq_false c3; clear c3; obtain rfl := Option.some.inj H; go_wp2
     all_goals (go_ret; exact ⟨by first | rfl | (simp [errW_none, errW_some] <;> rfl) | (simp [*, errW_none, errW_some] <;> rfl) | (simp_all; done), lB HB⟩)

/-! ### hornbeamref12_May: function 28 -/
def hornbeamref12_May.j0 : Nat → Int → Int → Bool → Option (Bool)
 | 0, _, _, _ => none
 | k + 1, x0, x2, x12 => if x12 = true then (some false) else (if x0 = 0 then (if x2 ≥ 2 then (some (decide (x2 ≤ 256))) else (some false)) else (if x0 = 1 then (some (x2 == 0)) else (some false)))
def hornbeamref12_May.f (k : Nat) (a0 : Int) (a1 : Int) (a2 : Int) : Option (Bool) := if a1 < 1 then (hornbeamref12_May.j0 k a0 a2 true) else (hornbeamref12_May.j0 k a0 a2 (decide (a1 > 257)))
theorem hornbeamref12_May.mono_l : ∀ k, (∀ y0 y1 y2, LeO (hornbeamref12_May.j0 k y0 y1 y2) (hornbeamref12_May.j0 (k + 1) y0 y1 y2))
 | 0 => fun _ _ _ r h => by simp [hornbeamref12_May.j0] at h
 | k + 1 => by
  have ih0 := hornbeamref12_May.mono_l k
  ·intro y0 y1 y2
   unfold hornbeamref12_May.j0
   repeat' first
   | (with_reducible exact ih0 _ _ _)
   | (with_reducible exact LeO.refl _)
   | (with_reducible exact LeO.none _)
   | (with_reducible refine LeO.ite ?_ ?_)
   | (with_reducible refine LeO.bind ?_ (fun _ => ?_))
   | exact ih0 _ _ _
   | exact LeO.none _
   | refine LeO.ite ?_ ?_
   | refine LeO.bind ?_ (fun _ => ?_)
theorem hornbeamref12_May.mono : ∀ a0 a1 a2 k, LeO (hornbeamref12_May.f k a0 a1 a2) (hornbeamref12_May.f (k + 1) a0 a1 a2) := by
 intro a0 a1 a2 k
 have ih0 := hornbeamref12_May.mono_l k
 unfold hornbeamref12_May.f
 repeat' first
   | (with_reducible exact ih0 _ _ _)
   | (with_reducible exact LeO.refl _)
   | (with_reducible exact LeO.none _)
   | (with_reducible refine LeO.ite ?_ ?_)
   | (with_reducible refine LeO.bind ?_ (fun _ => ?_))
   | exact ih0 _ _ _
   | exact LeO.none _
   | refine LeO.ite ?_ ?_
   | refine LeO.bind ?_ (fun _ => ?_)
set_option maxHeartbeats 8000000 in
set_option maxRecDepth 100000 in
theorem hornbeamref12_May.calls (k : Nat) (a0 : Int) (a1 : Int) (a2 : Int) (r : Bool) (w : World) (h : hornbeamref12_May.f k a0 a1 a2 = some r) :
  Calls Try.prog 28 #[.int .i64 a0, .int .i64 a1, .int .i64 a2] w fun e w' => e = .returned (.bool r) ∧ Drawn0 w w' := by
 have H : (if a1 < 1 then (hornbeamref12_May.j0 k a0 a2 true) else (hornbeamref12_May.j0 k a0 a2 (decide (a1 > 257)))) = some r := h
 clear h
 have HC4 := aaM H
 clear H
 go_enter Try.func28, Try.ntmps28
 go_upto_region 1 with (fail)
 go_cut [12] (fun v12 wc => ∃ (kq : Nat) (x12_3 : Bool), v12 = .bool x12_3 ∧ Aside0 (hornbeamref12_May.j0 kq a0 a2 x12_3 = some r) ∧ Aside0 (kq ≤ k) ∧ Drawn0 w wc)
 case first =>
  have H := HC4.out; clear HC4
  by_cases c5 : a1 < 1
  ·rw [if_pos c5] at H
   have c5b0 : decide (a1 < 1) = true := decide_eq_true c5; clear c5; (first | rw [c5b0] | (simp only [i64_w, i32_w]; rw [c5b0]) | skip); have H' := aaM H; clear H; go_wp2
   go_meet
   case rel => exact ⟨_, (true), (eF), H', ⟨by first | omega | exact Nat.le_refl _⟩, by repeat (first | exact Drawn0.refl _ | apply Drawn0.step)⟩
  ·rw [if_neg c5] at H
   have c5b0 : decide (a1 < 1) = false := decide_eq_false c5; clear c5; (first | rw [c5b0] | (simp only [i64_w, i32_w]; rw [c5b0]) | skip); have H' := aaM H; clear H; go_wp2
   go_meet
   case rel => exact ⟨_, (decide (a1 > 257)), (eF), H', ⟨by first | omega | exact Nat.le_refl _⟩, by repeat (first | exact Drawn0.refl _ | apply Drawn0.step)⟩
 case rest =>
  clear HC4; (try clear c2); (try clear p2); (try clear c5); (try clear c5b0); obtain ⟨kq, x12_3, rfl, HA, HJ3, ⟨mc3, rfl⟩⟩ := hcut
  cases kq with
  | zero => exact absurd HA.out (by simp [hornbeamref12_May.j0])
  | succ kj3 =>
   have H := HA.out; clear HA; simp only [hornbeamref12_May.j0] at H
   by_cases c6 : x12_3 = true
   ·subst c6
    have H1 : (some false) = some r := by rw [if_pos rfl] at H; exact H
    clear H; have H := H1; clear H1; obtain rfl := Option.some.inj H; go_wp2
    all_goals (go_ret; exact ⟨eF, by repeat (first | exact Drawn0.refl _ | apply Drawn0.step)⟩)
   ·replace c6 := Bool.eq_false_iff.mpr c6
    subst c6
    have H1 : (if a0 = 0 then (if a2 ≥ 2 then (some (decide (a2 ≤ 256))) else (some false)) else (if a0 = 1 then (some (a2 == 0)) else (some false))) = some r := by rw [if_neg (show ¬ (false = true) by decide)] at H; exact H
    clear H; have H := H1; clear H1
    by_cases c7 : a0 = 0
    ·rw [if_pos c7] at H
     have c7b0 : (a0 == 0) = true := beq_iff_eq.mpr c7; have c7b1 : (a0 != 0) = false := bne_eq_false_iff_eq.mpr c7; clear c7
     by_cases c8 : a2 ≥ 2
     ·rw [if_pos c8] at H
      have c8b0 : decide (2 ≤ a2) = true := decide_eq_true c8; clear c8; obtain rfl := Option.some.inj H; go_wp2
      all_goals (go_ret; exact ⟨eF, by repeat (first | exact Drawn0.refl _ | apply Drawn0.step)⟩)
     ·rw [if_neg c8] at H
      have c8b0 : decide (2 ≤ a2) = false := decide_eq_false c8; clear c8; obtain rfl := Option.some.inj H; go_wp2
      all_goals (go_ret; exact ⟨eF, by repeat (first | exact Drawn0.refl _ | apply Drawn0.step)⟩)
    ·rw [if_neg c7] at H
     have c7b0 : (a0 == 0) = false := beq_eq_false_iff_ne.mpr c7; have c7b1 : (a0 != 0) = true := bne_iff_ne.mpr c7
     by_cases c9 : a0 = 1
     ·rw [if_pos c9] at H
      have c9b0 : (a0 == 1) = true := beq_iff_eq.mpr c9; have c9b1 : (a0 != 1) = false := bne_eq_false_iff_eq.mpr c9; clear c9; obtain rfl := Option.some.inj H; go_wp2
      all_goals (go_ret; exact ⟨eF, by repeat (first | exact Drawn0.refl _ | apply Drawn0.step)⟩)
     ·rw [if_neg c9] at H
      have c9b0 : (a0 == 1) = false := beq_eq_false_iff_ne.mpr c9; have c9b1 : (a0 != 1) = true := bne_iff_ne.mpr c9; obtain rfl := Option.some.inj H; go_wp2
      all_goals (go_ret; exact ⟨eF, by repeat (first | exact Drawn0.refl _ | apply Drawn0.step)⟩)

/-! ### hornbeamref12_Right: function 15 -/
def hornbeamref12_Right.f (k : Nat) (a0_0 : Int) (a0_1 : Int) (a0_2 : Int) (l0_3 : List Int) (l0_4 : List (S54)) : Option (Bool) := (hornbeamref12_May.f k a0_0 a0_1 a0_2).bind fun t302 => (if t302 = true then (if a0_0 = 0 then (if (l0_3.length : Int) = (wrap64 (a0_1 * a0_2)) then (some ((l0_4.length : Int) == 0)) else (some false)) else (if (l0_3.length : Int) = 0 then (some ((l0_4.length : Int) == a0_1)) else (some false))) else (some false))
theorem hornbeamref12_Right.mono : ∀ a0 a1 a2 a3 a4 k, LeO (hornbeamref12_Right.f k a0 a1 a2 a3 a4) (hornbeamref12_Right.f (k + 1) a0 a1 a2 a3 a4) := by
 intro a0 a1 a2 a3 a4 k
 unfold hornbeamref12_Right.f
 repeat' first
   | (with_reducible exact hornbeamref12_May.mono _ _ _ _)
   | (with_reducible exact LeO.refl _)
   | (with_reducible exact LeO.none _)
   | (with_reducible refine LeO.ite ?_ ?_)
   | (with_reducible refine LeO.bind ?_ (fun _ => ?_))
   | exact hornbeamref12_May.mono _ _ _ _
   | exact LeO.none _
   | refine LeO.ite ?_ ?_
   | refine LeO.bind ?_ (fun _ => ?_)
set_option maxHeartbeats 8000000 in
set_option maxRecDepth 100000 in
theorem hornbeamref12_Right.calls (k : Nat) (a0_0 : Int) (a0_1 : Int) (a0_2 : Int) (A0_3 : Option Addr) (c0_3 : Nat) (l0_3 : List Int) (A0_4 : Option Addr) (c0_4 : Nat) (l0_4 : List (S54)) (r : Bool) (w : World) (hr0_3 : Kd.C (Kd.int .i64) w A0_3 l0_3.length l0_3) (hc0_3 : l0_3.length ≤ c0_3) (hr0_4 : Kd.C k54 w A0_4 l0_4.length l0_4) (hc0_4 : l0_4.length ≤ c0_4) (h : hornbeamref12_Right.f k a0_0 a0_1 a0_2 l0_3 l0_4 = some r) :
  Calls Try.prog 15 #[.agg #[.int .i64 a0_0, .int .i64 a0_1, .int .i64 a0_2, .slice A0_3 l0_3.length c0_3, .slice A0_4 l0_4.length c0_4]] w fun e w' => e = .returned (.bool r) ∧ Below w.heap.size w w' := by
 have hu25 := Try.underlying25
 have HR0_3 := aaM hr0_3
 have HC0_3 := aaM hc0_3
 clear hr0_3 hc0_3
 have HR0_4 := aaM hr0_4
 have HC0_4 := aaM hc0_4
 clear hr0_4 hc0_4
 have HB := aaM (Below.refl w.heap.size w)
 have H : ((hornbeamref12_May.f k a0_0 a0_1 a0_2).bind fun t302 => (if t302 = true then (if a0_0 = 0 then (if (l0_3.length : Int) = (wrap64 (a0_1 * a0_2)) then (some ((l0_4.length : Int) == 0)) else (some false)) else (if (l0_3.length : Int) = 0 then (some ((l0_4.length : Int) == a0_1)) else (some false))) else (some false))) = some r := h
 clear h
 replace H := ooB.mp H
 obtain ⟨t302, A20, H⟩ := H
 replace H : (if t302 = true then (if a0_0 = 0 then (if (l0_3.length : Int) = (wrap64 (a0_1 * a0_2)) then (some ((l0_4.length : Int) == 0)) else (some false)) else (if (l0_3.length : Int) = 0 then (some ((l0_4.length : Int) == a0_1)) else (some false))) else (some false)) = some r := H
 have A2 := aaM A20
 clear A20
 by_cases c3 : t302 = true
 ·subst c3
  have H1 : (if a0_0 = 0 then (if (l0_3.length : Int) = (wrap64 (a0_1 * a0_2)) then (some ((l0_4.length : Int) == 0)) else (some false)) else (if (l0_3.length : Int) = 0 then (some ((l0_4.length : Int) == a0_1)) else (some false))) = some r := by rw [if_pos rfl] at H; exact H
  clear H; have H := H1; clear H1
  by_cases c4 : a0_0 = 0
  ·rw [if_pos c4] at H
   have c4b0 : (a0_0 == 0) = true := beq_iff_eq.mpr c4; have c4b1 : (a0_0 != 0) = false := bne_eq_false_iff_eq.mpr c4; clear c4
   by_cases c5 : (l0_3.length : Int) = (wrap64 (a0_1 * a0_2))
   ·rw [if_pos c5] at H
    have c5b0 : ((l0_3.length : Int) == (wrap64 (a0_1 * a0_2))) = true := beq_iff_eq.mpr c5; have c5b1 : ((l0_3.length : Int) != (wrap64 (a0_1 * a0_2))) = false := bne_eq_false_iff_eq.mpr c5; clear c5; obtain rfl := Option.some.inj H; go_enter Try.func15, Try.ntmps15
    go_wp2_with (first | ((with_reducible refine gate_dst (N := 1) rfl ?_); (try (refine gate_guard (by rfl) ?_; dsimp only)); refine bxF w HB 1 #[.int .i64 a0_0, .int .i64 a0_1, .int .i64 a0_2, .slice A0_3 l0_3.length c0_3, .slice A0_4 l0_4.length c0_4] 25 ?_; intro gb301 hg w6 hb BK301 HB GE301; have GW301 := GE301; clear hb hg; obtain ⟨_, _, _, _, _, _, _, _, _, _⟩ := bE5 BK301.out) | ((with_reducible refine gate_callee (f := 28) rfl ?_); refine gL (some 9) Try.func28 #[.int .i64 a0_0, .int .i64 a0_1, .int .i64 a0_2] ?_; (with_reducible refine (hornbeamref12_May.calls k a0_0 a0_1 a0_2 true _ A2.out).mono ?_); rintro e w' ⟨rfl, ⟨nd, rfl⟩⟩; refine ⟨_, rfl, ?_⟩))
    all_goals (go_ret; exact ⟨by first | rfl | (simp [errW_none, errW_some] <;> rfl) | (simp [*, errW_none, errW_some] <;> rfl) | (simp_all; done), lB HB⟩)
   ·rw [if_neg c5] at H
    have c5b0 : ((l0_3.length : Int) == (wrap64 (a0_1 * a0_2))) = false := beq_eq_false_iff_ne.mpr c5; have c5b1 : ((l0_3.length : Int) != (wrap64 (a0_1 * a0_2))) = true := bne_iff_ne.mpr c5; obtain rfl := Option.some.inj H; go_enter Try.func15, Try.ntmps15
    go_wp2_with (first | ((with_reducible refine gate_dst (N := 1) rfl ?_); (try (refine gate_guard (by rfl) ?_; dsimp only)); refine bxF w HB 1 #[.int .i64 a0_0, .int .i64 a0_1, .int .i64 a0_2, .slice A0_3 l0_3.length c0_3, .slice A0_4 l0_4.length c0_4] 25 ?_; intro gb301 hg w8 hb BK301 HB GE301; have GW301 := GE301; clear hb hg; obtain ⟨_, _, _, _, _, _, _, _, _, _⟩ := bE5 BK301.out) | ((with_reducible refine gate_callee (f := 28) rfl ?_); refine gL (some 9) Try.func28 #[.int .i64 a0_0, .int .i64 a0_1, .int .i64 a0_2] ?_; (with_reducible refine (hornbeamref12_May.calls k a0_0 a0_1 a0_2 true _ A2.out).mono ?_); rintro e w' ⟨rfl, ⟨nd, rfl⟩⟩; refine ⟨_, rfl, ?_⟩))
    all_goals (go_ret; exact ⟨by first | rfl | (simp [errW_none, errW_some] <;> rfl) | (simp [*, errW_none, errW_some] <;> rfl) | (simp_all; done), lB HB⟩)
  ·rw [if_neg c4] at H
   have c4b0 : (a0_0 == 0) = false := beq_eq_false_iff_ne.mpr c4; have c4b1 : (a0_0 != 0) = true := bne_iff_ne.mpr c4
   by_cases c10 : (l0_3.length : Int) = 0
   ·rw [if_pos c10] at H
    have c10b0 : ((l0_3.length : Int) == 0) = true := beq_iff_eq.mpr c10; have c10b1 : ((l0_3.length : Int) != 0) = false := bne_eq_false_iff_eq.mpr c10; clear c10; obtain rfl := Option.some.inj H; go_enter Try.func15, Try.ntmps15
    go_wp2_with (first | ((with_reducible refine gate_dst (N := 1) rfl ?_); (try (refine gate_guard (by rfl) ?_; dsimp only)); refine bxF w HB 1 #[.int .i64 a0_0, .int .i64 a0_1, .int .i64 a0_2, .slice A0_3 l0_3.length c0_3, .slice A0_4 l0_4.length c0_4] 25 ?_; intro gb301 hg w11 hb BK301 HB GE301; have GW301 := GE301; clear hb hg; obtain ⟨_, _, _, _, _, _, _, _, _, _⟩ := bE5 BK301.out) | ((with_reducible refine gate_callee (f := 28) rfl ?_); refine gL (some 9) Try.func28 #[.int .i64 a0_0, .int .i64 a0_1, .int .i64 a0_2] ?_; (with_reducible refine (hornbeamref12_May.calls k a0_0 a0_1 a0_2 true _ A2.out).mono ?_); rintro e w' ⟨rfl, ⟨nd, rfl⟩⟩; refine ⟨_, rfl, ?_⟩))
    all_goals (go_ret; exact ⟨by first | rfl | (simp [errW_none, errW_some] <;> rfl) | (simp [*, errW_none, errW_some] <;> rfl) | (simp_all; done), lB HB⟩)
   ·rw [if_neg c10] at H
    have c10b0 : ((l0_3.length : Int) == 0) = false := beq_eq_false_iff_ne.mpr c10; have c10b1 : ((l0_3.length : Int) != 0) = true := bne_iff_ne.mpr c10
    have c10b2 : ¬ (l0_3 = []) := fun h_ => c10 (by rw [h_]; rfl)
    obtain rfl := Option.some.inj H; go_enter Try.func15, Try.ntmps15
    go_wp2_with (first | ((with_reducible refine gate_dst (N := 1) rfl ?_); (try (refine gate_guard (by rfl) ?_; dsimp only)); refine bxF w HB 1 #[.int .i64 a0_0, .int .i64 a0_1, .int .i64 a0_2, .slice A0_3 l0_3.length c0_3, .slice A0_4 l0_4.length c0_4] 25 ?_; intro gb301 hg w13 hb BK301 HB GE301; have GW301 := GE301; clear hb hg; obtain ⟨_, _, _, _, _, _, _, _, _, _⟩ := bE5 BK301.out) | ((with_reducible refine gate_callee (f := 28) rfl ?_); refine gL (some 9) Try.func28 #[.int .i64 a0_0, .int .i64 a0_1, .int .i64 a0_2] ?_; (with_reducible refine (hornbeamref12_May.calls k a0_0 a0_1 a0_2 true _ A2.out).mono ?_); rintro e w' ⟨rfl, ⟨nd, rfl⟩⟩; refine ⟨_, rfl, ?_⟩))
    all_goals (go_ret; exact ⟨by first | rfl | (simp [errW_none, errW_some] <;> rfl) | (simp [*, errW_none, errW_some] <;> rfl) | (simp_all; done), lB HB⟩)
 ·replace c3 := Bool.eq_false_iff.mpr c3
  subst c3
  have H1 : (some false) = some r := by rw [if_neg (show ¬ (false = true) by decide)] at H; exact H
  clear H; have H := H1; clear H1; obtain rfl := Option.some.inj H; go_enter Try.func15, Try.ntmps15
  go_wp2_with (first | ((with_reducible refine gate_dst (N := 1) rfl ?_); (try (refine gate_guard (by rfl) ?_; dsimp only)); refine bxF w HB 1 #[.int .i64 a0_0, .int .i64 a0_1, .int .i64 a0_2, .slice A0_3 l0_3.length c0_3, .slice A0_4 l0_4.length c0_4] 25 ?_; intro gb301 hg w15 hb BK301 HB GE301; have GW301 := GE301; clear hb hg; obtain ⟨_, _, _, _, _, _, _, _, _, _⟩ := bE5 BK301.out) | ((with_reducible refine gate_callee (f := 28) rfl ?_); refine gL (some 9) Try.func28 #[.int .i64 a0_0, .int .i64 a0_1, .int .i64 a0_2] ?_; (with_reducible refine (hornbeamref12_May.calls k a0_0 a0_1 a0_2 false _ A2.out).mono ?_); rintro e w' ⟨rfl, ⟨nd, rfl⟩⟩; refine ⟨_, rfl, ?_⟩))
  all_goals (go_ret; exact ⟨by first | rfl | (simp [errW_none, errW_some] <;> rfl) | (simp [*, errW_none, errW_some] <;> rfl) | (simp_all; done), lB HB⟩)

/-! ### hornbeamref12_Copy: function 17 -/
def hornbeamref12_Copy.f (a0_0 : Int) (a0_1 : Int) (a0_2 : Int) (l0_3 : List Int) (l0_4 : List (S54)) : Option (Int × Int × Int × List Int × (List (S54))) := (some (([] : List Int) : List Int)).bind fun y305 => (if y305.length + l0_3.length < 17592186044416 then ((some (([] : List (S54)) : List (S54))).bind fun y311 => (if y311.length + l0_4.length < 5864062014805 then (some (a0_0, a0_1, a0_2, (y305 ++ l0_3), (y311 ++ l0_4))) else (none))) else (none))
set_option maxHeartbeats 8000000 in
set_option maxRecDepth 100000 in
theorem hornbeamref12_Copy.calls (a0_0 : Int) (a0_1 : Int) (a0_2 : Int) (A0_3 : Option Addr) (c0_3 : Nat) (l0_3 : List Int) (A0_4 : Option Addr) (c0_4 : Nat) (l0_4 : List (S54)) (r1 : Int) (r2 : Int) (r3 : Int) (r4 : List Int) (r5 : List (S54)) (w : World) (hr0_3 : Kd.C (Kd.int .i64) w A0_3 l0_3.length l0_3) (hc0_3 : l0_3.length ≤ c0_3) (hr0_4 : Kd.C k54 w A0_4 l0_4.length l0_4) (hc0_4 : l0_4.length ≤ c0_4) (h : hornbeamref12_Copy.f a0_0 a0_1 a0_2 l0_3 l0_4 = some (r1, r2, r3, r4, r5)) :
  Calls Try.prog 17 #[.agg #[.int .i64 a0_0, .int .i64 a0_1, .int .i64 a0_2, .slice A0_3 l0_3.length c0_3, .slice A0_4 l0_4.length c0_4]] w fun e w' => ∃ v3_ v4_ : Value, e = .returned (.agg #[.int .i64 r1, .int .i64 r2, .int .i64 r3, v3_, v4_]) ∧ Kd.R (Kd.int .i64) 2 w' w.heap.size (fun _ => True) v3_ r4 ∧ Kd.R k54 54 w' w.heap.size (fun _ => True) v4_ r5 ∧ Below w.heap.size w w' := by
 have hu25 := Try.underlying25
 have HR0_3 := aaM hr0_3
 have HC0_3 := aaM hc0_3
 clear hr0_3 hc0_3
 have HR0_4 := aaM hr0_4
 have HC0_4 := aaM hc0_4
 clear hr0_4 hc0_4
 have HB := aaM (Below.refl w.heap.size w)
 have H : ((some (([] : List Int) : List Int)).bind fun y305 => (if y305.length + l0_3.length < 17592186044416 then ((some (([] : List (S54)) : List (S54))).bind fun y311 => (if y311.length + l0_4.length < 5864062014805 then (some (a0_0, a0_1, a0_2, (y305 ++ l0_3), (y311 ++ l0_4))) else (none))) else (none))) = some (r1, r2, r3, r4, r5) := h
 clear h
 obtain ⟨y305, hy305⟩ : ∃ y_ : List Int, y_ = (([] : List Int)) := ⟨_, rfl⟩
 replace H : (if y305.length + l0_3.length < 17592186044416 then ((some (([] : List (S54)) : List (S54))).bind fun y311 => (if y311.length + l0_4.length < 5864062014805 then (some (a0_0, a0_1, a0_2, (y305 ++ l0_3), (y311 ++ l0_4))) else (none))) else (none)) = some (r1, r2, r3, r4, r5) := by first | (rw [hy305]; with_reducible exact H) | (have H2_ := (Option.bind_some _ _).symm.trans H; rw [hy305]; with_reducible exact H2_) | (have H2_ := (Option.bind_some _ _).symm.trans H; with_reducible exact H2_) | with_reducible exact H | (rw [hy305]; exact H) | exact H
 have Ny305 := aaM hy305
 clear hy305
 by_cases c2 : y305.length + l0_3.length < 17592186044416
 ·rw [if_pos c2] at H
  have LMc2 := aaM c2; clear c2; obtain ⟨y308, hy308⟩ : ∃ y_ : List Int, y_ = (y305 ++ l0_3) := ⟨_, rfl⟩
  replace H : ((some (([] : List (S54)) : List (S54))).bind fun y311 => (if y311.length + l0_4.length < 5864062014805 then (some (a0_0, a0_1, a0_2, y308, (y311 ++ l0_4))) else (none))) = some (r1, r2, r3, r4, r5) := by first | (rw [hy308]; with_reducible exact H) | (have H2_ := (Option.bind_some _ _).symm.trans H; rw [hy308]; with_reducible exact H2_) | (have H2_ := (Option.bind_some _ _).symm.trans H; with_reducible exact H2_) | with_reducible exact H | (rw [hy308]; exact H) | exact H
  have Ny308 := aaM hy308; clear hy308; obtain ⟨y311, hy311⟩ : ∃ y_ : List (S54), y_ = (([] : List (S54))) := ⟨_, rfl⟩
  replace H : (if y311.length + l0_4.length < 5864062014805 then (some (a0_0, a0_1, a0_2, y308, (y311 ++ l0_4))) else (none)) = some (r1, r2, r3, r4, r5) := by first | (rw [hy311]; with_reducible exact H) | (have H2_ := (Option.bind_some _ _).symm.trans H; rw [hy311]; with_reducible exact H2_) | (have H2_ := (Option.bind_some _ _).symm.trans H; with_reducible exact H2_) | with_reducible exact H | (rw [hy311]; exact H) | exact H
  have Ny311 := aaM hy311; clear hy311
  by_cases c3 : y311.length + l0_4.length < 5864062014805
  ·rw [if_pos c3] at H
   have LMc3 := aaM c3; clear c3; obtain ⟨y314, hy314⟩ : ∃ y_ : List (S54), y_ = (y311 ++ l0_4) := ⟨_, rfl⟩
   replace H : (some (a0_0, a0_1, a0_2, y308, y314)) = some (r1, r2, r3, r4, r5) := by first | (rw [hy314]; with_reducible exact H) | (have H2_ := (Option.bind_some _ _).symm.trans H; rw [hy314]; with_reducible exact H2_) | (have H2_ := (Option.bind_some _ _).symm.trans H; with_reducible exact H2_) | with_reducible exact H | (rw [hy314]; exact H) | exact H
   have Ny314 := aaM hy314; clear hy314; simp only [Option.some.injEq, Prod.mk.injEq] at H; obtain ⟨rfl, rfl, rfl, rfl, rfl⟩ := H; go_enter Try.func17, Try.ntmps17
   go_wp2_with (first | ((with_reducible refine gate_dst (N := 1) rfl ?_); refine bxF w HB 1 #[.int .i64 a0_0, .int .i64 a0_1, .int .i64 a0_2, .slice A0_3 l0_3.length c0_3, .slice A0_4 l0_4.length c0_4] 25 ?_; intro gb303 hg w4 hb BK303 HB GE303; have GW303 := GE303; clear hb hg) | ((with_reducible refine gate_dst (N := 2) rfl ?_); refine bxF w HB 2 #[.int .i64 0, .int .i64 0, .int .i64 0, .slice none 0 0, .slice none 0 0] 25 ?_; intro gb304 hg w5 hb BK304 HB GE304; have GW304 := GE304; obtain ⟨NB303_304, NB304_303⟩ := nS hg BK303; replace BK303 := bY hb BK303; clear hb hg) | ((with_reducible refine gate_dst (N := 3) rfl ?_); refine Kd.R_lit (Kd.int .i64) _ 2 ?hg (N := 3) ?hd (xs := ([] : List Int)) (inner := []) (ok := fun _ => True) (okp := fun _ => True) ?hr ?hp (fun _ hk => hk) trivial (Below.refl _ _) (Nat.le_refl _) (by simp) ?_; (case hd => rfl); (case hg => rfl); (case hr => first | (go_simp; done) | (go_simp; rfl)); (case hp => exact (Reps.none _ _)); intro v306 w6 ho7 hb hg_ hnew_; clear hg_ hnew_; (first | rw [← Ny305.out] at ho7 | (simp only [Int.reduceToNat] at ho7; rw [← Ny305.out] at ho7)); have HO307 := aaM (Kd.R_lower ho7 (lZ (lB HB))); replace BK303 := bY hb BK303; replace BK304 := bY hb BK304; replace HB := aaM (lP (lB HB) hb); clear hb ho7; have := NB303_304.out; have := NB304_303.out; obtain ⟨_, _, _, _, _, _, _, _, _, _⟩ := bE5 BK303.out) | ((with_reducible refine gate_builtin (b := .append) (xs := #[.tmp 3, .tmp 5]) rfl ?_); at_builtin; refine Kd.R_append_rows (Kd.int .i64) (w0 := w) w.heap.size rfl (.tmp 3) (.tmp 5) 22 2 (.int .i64 0) 8 rfl Try.underlying22 info2 rfl (by decide) (by omega) v306 y305 l0_3 _ _ _ (fun _ => True) (fun _ => False) rfl rfl ?aO ?aR (fun _ _ h => h) (fun _ h => h.elim) ?aF ?aB ?aS ?aL ?_; (case aR => repeat (first | exact (ccB HR0_3.out HB.out) | (with_reducible refine ccA ?_ _) | (with_reducible refine ccN ?_ _) | (with_reducible refine ccD ?_))); (case aB => exact (lB HB)); (case aF => exact (fun _ _ => trivial)); (case aO => exact (rZ HO307)); (case aS => exact (lZ (lB HB))); (case aL => have := LMc2.out; omega); intro v309 w10 ho hb hg hat; rw [← Ny308.out] at ho; have n0_ := aaM (blk_grown (g := gb303) (bZ BK303) hg (Kd.R_ne HO307.out BK303.out (by decide))); have n1_ := aaM (blk_grown (g := gb304) (bZ BK304) hg (Kd.R_ne HO307.out BK304.out (by decide))); have n2_ := aaM (hb); have n3_ := aaM (ho); clear BK303 BK304 HB HO307; have BK303 := n0_; have BK304 := n1_; have HB := n2_; have HO310 := n3_; clear n0_ n1_ n2_ n3_ ho hb hg hat; obtain ⟨Ao11, co11, eo11⟩ := Kd.R_slice HO310.out; subst eo11; obtain ⟨_, _, _, _, _, _, _, _, _, _⟩ := bE5 BK303.out) | ((with_reducible refine gate_dst (N := 8) rfl ?_); refine Kd.R_lit k54 _ 54 ?hg (N := 8) ?hd (xs := ([] : List (S54))) (inner := []) (ok := fun _ => True) (okp := fun _ => True) ?hr ?hp (fun _ hk => hk) trivial (Below.refl _ _) (Nat.le_refl _) (by simp) ?_; (case hd => rfl); (case hg => rfl); (case hr => first | (go_simp; done) | (go_simp; rfl)); (case hp => exact (Reps.none _ _)); intro v312 w13 ho14 hb hg_ hnew_; clear hg_ hnew_; (first | rw [← Ny311.out] at ho14 | (simp only [Int.reduceToNat] at ho14; rw [← Ny311.out] at ho14)); replace HO310 := aaM (rrB (by (with_reducible repeat (first | apply rrA | apply rrN | apply rrD)); exact (Kd.R_mono (rrF (p := ⟨gb303, 3, none⟩) (Kd.R_types HO310.out BK303.out (by decide)) (fun _ hk => hk.2) (.slice Ao11 y308.length co11)) (fun _ h_ => h_.1))) hb); have HO313 := aaM (Kd.R_lower ho14 (lZ (lB HB))); replace BK303 := aaM (bB (g := gb303) (o := .cells #[.int .i64 a0_0, .int .i64 a0_1, .int .i64 a0_2, .slice Ao11 y308.length co11, .slice A0_4 l0_4.length c0_4] 25 (0, 0)) (bZ BK303) hb); replace BK304 := aaM (bB (g := gb304) (o := .cells #[.int .i64 0, .int .i64 0, .int .i64 0, .slice none 0 0, .slice none 0 0] 25 (0, 0)) (bZ BK304) hb); replace HB := aaM (lP (lB HB) hb); clear hb ho14; obtain ⟨_, _, _, _, _, _, _, _, _, _⟩ := bE5 BK303.out) | ((with_reducible refine gate_builtin (b := .append) (xs := #[.tmp 8, .tmp 10]) rfl ?_); at_builtin; refine Kd.R_append_rows k54 (w0 := w) w.heap.size rfl (.tmp 8) (.tmp 10) 23 54 (.agg #[(.int .i64 0), (.int .i64 0), (.int .i64 0)]) 24 rfl Try.underlying23 info54 rfl (by decide) (by omega) v312 y311 l0_4 _ _ _ (fun _ => True) (fun _ => False) rfl rfl ?aO ?aR (fun _ _ h => h) (fun _ h => h.elim) ?aF ?aB ?aS ?aL ?_; (case aR => repeat (first | exact (ccB HR0_4.out HB.out) | (with_reducible refine ccA ?_ _) | (with_reducible refine ccN ?_ _) | (with_reducible refine ccD ?_))); (case aB => exact (lB HB)); (case aF => exact (fun _ _ => trivial)); (case aO => exact (rZ HO313)); (case aS => exact (lZ (lB HB))); (case aL => have := LMc3.out; omega); intro v315 w16 ho hb hg hat; rw [← Ny314.out] at ho; have n0_ := aaM (blk_grown (g := gb303) (bZ BK303) hg (Kd.R_ne HO313.out BK303.out (by decide))); have n1_ := aaM (blk_grown (g := gb304) (bZ BK304) hg (Kd.R_ne HO313.out BK304.out (by decide))); have n2_ := aaM (Kd.R_over' (rZ HO310) (Kd.R_typed (rZ HO313)) (by decide) hg); have n3_ := aaM (hb); have n4_ := aaM (ho); clear BK303 BK304 HO310 HB HO313; have BK303 := n0_; have BK304 := n1_; have HO310 := n2_; have HB := n3_; have HO316 := n4_; clear n0_ n1_ n2_ n3_ n4_ ho hb hg hat; obtain ⟨Ao17, co17, eo17⟩ := Kd.R_slice HO316.out; subst eo17; obtain ⟨_, _, _, _, _, _, _, _, _, _⟩ := bE5 BK303.out; obtain ⟨_, _, _, _, _, _, _, _, _, _⟩ := bE5 BK304.out))
   refine bodyPost_ret (results_cell_row rfl _ _ gb304 25 #[.int .i64 a0_0, .int .i64 a0_1, .int .i64 a0_2, .slice Ao11 y308.length co11, .slice Ao17 y314.length co17] (0, 0) _ rfl (bZ BK304) Try.underlying25 rfl (by kernel_rfl)) rfl ?_
   exact ⟨_, _, eE, by (with_reducible repeat (first | apply rrA | apply rrN | apply rrD)); exact Kd.R_mono (rrF (p := ⟨gb304, 4, none⟩) (rrF (p := ⟨gb304, 3, none⟩) (rrF (p := ⟨gb304, 2, none⟩) (rrF (p := ⟨gb304, 1, none⟩) (rrF (p := ⟨gb304, 0, none⟩) (rrF (p := ⟨gb303, 4, none⟩) (Kd.R_types (Kd.R_types HO310.out BK303.out (by decide)) BK304.out (by decide)) (fun _ hk => hk.1.2) (.slice Ao17 y314.length co17)) (fun _ hk => hk.2) (.int .i64 a0_0)) (fun _ hk => hk.2) (.int .i64 a0_1)) (fun _ hk => hk.2) (.int .i64 a0_2)) (fun _ hk => hk.2) (.slice Ao11 y308.length co11)) (fun _ hk => hk.2) (.slice Ao17 y314.length co17)) (fun _ hk => trivial), by (with_reducible repeat (first | apply rrA | apply rrN | apply rrD)); exact Kd.R_mono (rrF (p := ⟨gb304, 4, none⟩) (rrF (p := ⟨gb304, 3, none⟩) (rrF (p := ⟨gb304, 2, none⟩) (rrF (p := ⟨gb304, 1, none⟩) (rrF (p := ⟨gb304, 0, none⟩) (rrF (p := ⟨gb303, 4, none⟩) (Kd.R_types (Kd.R_types HO316.out BK303.out (by decide)) BK304.out (by decide)) (fun _ hk => hk.1.2) (.slice Ao17 y314.length co17)) (fun _ hk => hk.2) (.int .i64 a0_0)) (fun _ hk => hk.2) (.int .i64 a0_1)) (fun _ hk => hk.2) (.int .i64 a0_2)) (fun _ hk => hk.2) (.slice Ao11 y308.length co11)) (fun _ hk => hk.2) (.slice Ao17 y314.length co17)) (fun _ hk => trivial), lB HB⟩
  ·rw [if_neg c3] at H
   exact absurd H (by simp)
 ·rw [if_neg c2] at H
  exact absurd H (by simp)

end Go.Proofs.Ytancajnbjmcamaa.QSplitTimes
