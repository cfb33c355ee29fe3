-- Written by a program of this session (wip/tools/mkprint.py over the kit's print); Lean checks it.
import Derived.Test.YtancajnbjmcamaaQSplitFirstx0
namespace Go.Proofs.Ytancajnbjmcamaa.QSplitFirst
open Go.RowKit Go.Proofs.YtancajnbjmcamaaW.PrintWords Go.Proofs.YtancajnbjmcamaaW.PrintLast Go.Proofs.YtancajnbjmcamaaW.PrintMore
attribute [local go_sem] max2_int min2_int max_two min_two max_three min_three max_four min_four   -- for this text's walks alone
set_option linter.unusedVariables false
set_option linter.unusedSimpArgs false

/-! ### hornbeamlaw16_great: function 12 -/
def hornbeamlaw16_great.l0 : Nat → List (S25) → Int → Int → Option (Bool)
 | 0, _, _, _ => none
 | k + 1, x8, x9, x10 => if x10 < x9 then (if 0 ≤ x10 then (if x10 < (x8.length : Int) then (if (((rd_T25 x8 x10).f3).length : Int) > 100 then (some true) else (if (((rd_T25 x8 x10).f4).length : Int) > 20 then (some true) else (hornbeamlaw16_great.l0 k x8 x9 (wrap64 (x10 + 1))))) else (none)) else (none)) else (some false)
def hornbeamlaw16_great.f (k : Nat) (l0 : List (S25)) : Option (Bool) := if (l0.length : Int) > 8 then (some true) else (hornbeamlaw16_great.l0 k l0 (l0.length : Int) 0)
theorem hornbeamlaw16_great.mono_l : ∀ k, (∀ y0 y1 y2, LeO (hornbeamlaw16_great.l0 k y0 y1 y2) (hornbeamlaw16_great.l0 (k + 1) y0 y1 y2))
 | 0 => fun _ _ _ r h => by simp [hornbeamlaw16_great.l0] at h
 | k + 1 => by
  have ih0 := hornbeamlaw16_great.mono_l k
  ·intro y0 y1 y2
   unfold hornbeamlaw16_great.l0
   repeat' first
   | (with_reducible exact ih0 _ _ _)
   | (with_reducible exact LeO.refl _)
   | (with_reducible exact LeO.none _)
   | (with_reducible refine LeO.ite ?_ ?_)
   | (with_reducible refine LeO.bind ?_ (fun _ => ?_))
   | exact ih0 _ _ _
   | exact LeO.none _
   | refine LeO.ite ?_ ?_
   | refine LeO.bind ?_ (fun _ => ?_)
theorem hornbeamlaw16_great.mono : ∀ a0 k, LeO (hornbeamlaw16_great.f k a0) (hornbeamlaw16_great.f (k + 1) a0) := by
 intro a0 k
 have ih0 := hornbeamlaw16_great.mono_l k
 unfold hornbeamlaw16_great.f
 repeat' first
   | (with_reducible exact ih0 _ _ _)
   | (with_reducible exact LeO.refl _)
   | (with_reducible exact LeO.none _)
   | (with_reducible refine LeO.ite ?_ ?_)
   | (with_reducible refine LeO.bind ?_ (fun _ => ?_))
   | exact ih0 _ _ _
   | exact LeO.none _
   | refine LeO.ite ?_ ?_
   | refine LeO.bind ?_ (fun _ => ?_)
set_option maxHeartbeats 8000000 in
set_option maxRecDepth 100000 in
theorem hornbeamlaw16_great.calls (k : Nat) (A0 : Option Addr) (c0 : Nat) (l0 : List (S25)) (r : Bool) (w : World) (hr0 : Kd.C k25 w A0 l0.length l0) (hc0 : l0.length ≤ c0) (h : hornbeamlaw16_great.f k l0 = some r) :
  Calls Try.prog 12 #[.slice A0 l0.length c0] w fun e w' => e = .returned (.bool r) ∧ Below w.heap.size w w' := by
 have hu25 := Try.underlying25
 have HR0 := aaM hr0
 have HC0 := aaM hc0
 clear hr0 hc0
 have HB := aaM (Below.refl w.heap.size w)
 have H : (if (l0.length : Int) > 8 then (some true) else (hornbeamlaw16_great.l0 k l0 (l0.length : Int) 0)) = some r := h
 clear h
 by_cases c2 : (l0.length : Int) > 8
 ·rw [if_pos c2] at H
  have c2b0 : decide (8 < (l0.length : Int)) = true := decide_eq_true c2; have c2b1 : decide (8 < l0.length) = true := decide_eq_true (by omega); clear c2; obtain rfl := Option.some.inj H; go_enter Try.func12, Try.ntmps12; go_wp2
  all_goals (go_ret; exact ⟨by first | rfl | (simp [errW_none, errW_some] <;> rfl) | (simp [*, errW_none, errW_some] <;> rfl) | (simp_all; done), lB HB⟩)
 ·rw [if_neg c2] at H
  have c2b0 : decide (8 < (l0.length : Int)) = false := decide_eq_false c2; have c2b1 : decide (8 < l0.length) = false := decide_eq_false (by omega); clear c2; have H' := aaM H; clear H; go_enter Try.func12, Try.ntmps12; go_wp2
  go_loopg [10] k (fun kq v10 w' => ∃ (x10_1 : Int), v10 = .int .i64 x10_1 ∧ Aside0 (hornbeamlaw16_great.l0 kq l0 (l0.length : Int) x10_1 = some r) ∧ Aside0 (kq ≤ k) ∧ Aside0 (Below w.heap.size w w'))
  case atStart => exact ⟨(0), (eF), H', ⟨Nat.le_refl _⟩, ⟨lB HB⟩⟩
  case round =>
   clear H'; (try clear c1); (try clear c2); (try clear c2b0); (try clear c2b1); (try clear p2); obtain ⟨x10_1, rfl, HA, HK1, HB⟩ := hrel
   cases gk with
   | zero => exact absurd HA.out (by simp [hornbeamlaw16_great.l0])
   | succ k1 =>
    have H := HA.out; clear HA; simp only [hornbeamlaw16_great.l0] at H
    by_cases c3 : x10_1 < (l0.length : Int)
    ·rw [if_pos c3] at H
     have c3b0 : decide (x10_1 < (l0.length : Int)) = true := decide_eq_true c3; clear c3
     by_cases c4 : 0 ≤ x10_1
     ·rw [if_pos c4] at H
      have c4b0 : decide (0 ≤ x10_1) = true := decide_eq_true c4; clear c4
      by_cases c5 : x10_1 < (l0.length : Int)
      ·rw [if_pos c5] at H
       have c5b0 : decide (x10_1 < (l0.length : Int)) = true := decide_eq_true c5; clear c5
       by_cases c6 : (((rd_T25 l0 x10_1).f3).length : Int) > 100
       ·rw [if_pos c6] at H
        have c6b0 : decide (100 < (((rd_T25 l0 x10_1).f3).length : Int)) = true := decide_eq_true c6; have c6b1 : decide (100 < ((rd_T25 l0 x10_1).f3).length) = true := decide_eq_true (by omega); clear c6; obtain rfl := Option.some.inj H; have p299 : 0 ≤ (x10_1 : Int) := of_decide_eq_true (by first | (with_reducible assumption) | assumption); have q299 : x10_1 < (l0.length : Int) := of_decide_eq_true (by first | (with_reducible assumption) | assumption); obtain ⟨ad299, A299_3, c299_3, A299_4, c299_4, e299, hx299_0, hx299_1, hx299_2, hx299_3, hx299_4, hl299_3, hi299_3, hl299_4, hi299_4⟩ := at_T25 HR0.out x10_1 p299 q299
        cases e299
        replace hx299_0 := (HB.out.cell (World.block_lt_of_cell? w _ hx299_0)).trans hx299_0; replace hx299_1 := (HB.out.cell (World.block_lt_of_cell? w _ hx299_1)).trans hx299_1; replace hx299_2 := (HB.out.cell (World.block_lt_of_cell? w _ hx299_2)).trans hx299_2; replace hx299_3 := (HB.out.cell (World.block_lt_of_cell? w _ hx299_3)).trans hx299_3; replace hx299_4 := (HB.out.cell (World.block_lt_of_cell? w _ hx299_4)).trans hx299_4; have HR299_3 := aaM hi299_3; have HC299_3 := aaM hl299_3; clear hi299_3 hl299_3; have HR299_4 := aaM hi299_4; have HC299_4 := aaM hl299_4; clear hi299_4 hl299_4; replace p299 := eq_true p299; replace q299 := eq_true q299
        go_wp2_with (first | ((with_reducible refine gate_dst (N := 4) rfl ?_); (try (refine gate_guard (by rfl) ?_; dsimp only)); refine bxE 4 #[.int .i64 0, .int .i64 0, .int .i64 0, .slice none 0 0, .slice none 0 0] 25 ?_; intro gb300 hg w7 hbox hb; have hP_ := lQ (lB HB) hb; replace HB := aaM hP_.1; have BK300 := aaM (hbox); have GW300 := aaM (gQ hg hP_.2); have GE300 := aaM (gQ hg hP_.2); clear hP_ hb hbox hg; obtain ⟨hcz8_0, hcz8_1, hcz8_2, hcz8_3, hcz8_4, hfz8_0, hfz8_1, hfz8_2, hfz8_3, hfz8_4⟩ := bE5 BK300.out))
        all_goals (go_ret; exact ⟨by first | rfl | (simp [errW_none, errW_some] <;> rfl) | (simp [*, errW_none, errW_some] <;> rfl) | (simp_all; done), lB HB⟩)
       ·rw [if_neg c6] at H
        have c6b0 : decide (100 < (((rd_T25 l0 x10_1).f3).length : Int)) = false := decide_eq_false c6; have c6b1 : decide (100 < ((rd_T25 l0 x10_1).f3).length) = false := decide_eq_false (by omega); clear c6
        by_cases c9 : (((rd_T25 l0 x10_1).f4).length : Int) > 20
        ·rw [if_pos c9] at H
         have c9b0 : decide (20 < (((rd_T25 l0 x10_1).f4).length : Int)) = true := decide_eq_true c9; have c9b1 : decide (20 < ((rd_T25 l0 x10_1).f4).length) = true := decide_eq_true (by omega); clear c9; obtain rfl := Option.some.inj H; have p299 : 0 ≤ (x10_1 : Int) := of_decide_eq_true (by first | (with_reducible assumption) | assumption); have q299 : x10_1 < (l0.length : Int) := of_decide_eq_true (by first | (with_reducible assumption) | assumption); obtain ⟨ad299, A299_3, c299_3, A299_4, c299_4, e299, hx299_0, hx299_1, hx299_2, hx299_3, hx299_4, hl299_3, hi299_3, hl299_4, hi299_4⟩ := at_T25 HR0.out x10_1 p299 q299
         cases e299
         replace hx299_0 := (HB.out.cell (World.block_lt_of_cell? w _ hx299_0)).trans hx299_0; replace hx299_1 := (HB.out.cell (World.block_lt_of_cell? w _ hx299_1)).trans hx299_1; replace hx299_2 := (HB.out.cell (World.block_lt_of_cell? w _ hx299_2)).trans hx299_2; replace hx299_3 := (HB.out.cell (World.block_lt_of_cell? w _ hx299_3)).trans hx299_3; replace hx299_4 := (HB.out.cell (World.block_lt_of_cell? w _ hx299_4)).trans hx299_4; have HR299_3 := aaM hi299_3; have HC299_3 := aaM hl299_3; clear hi299_3 hl299_3; have HR299_4 := aaM hi299_4; have HC299_4 := aaM hl299_4; clear hi299_4 hl299_4; replace p299 := eq_true p299; replace q299 := eq_true q299
         go_wp2_with (first | ((with_reducible refine gate_dst (N := 4) rfl ?_); (try (refine gate_guard (by rfl) ?_; dsimp only)); refine bxE 4 #[.int .i64 0, .int .i64 0, .int .i64 0, .slice none 0 0, .slice none 0 0] 25 ?_; intro gb300 hg w10 hbox hb; have hP_ := lQ (lB HB) hb; replace HB := aaM hP_.1; have BK300 := aaM (hbox); have GW300 := aaM (gQ hg hP_.2); have GE300 := aaM (gQ hg hP_.2); clear hP_ hb hbox hg; obtain ⟨hcz11_0, hcz11_1, hcz11_2, hcz11_3, hcz11_4, hfz11_0, hfz11_1, hfz11_2, hfz11_3, hfz11_4⟩ := bE5 BK300.out))
         all_goals (go_ret; exact ⟨by first | rfl | (simp [errW_none, errW_some] <;> rfl) | (simp [*, errW_none, errW_some] <;> rfl) | (simp_all; done), lB HB⟩)
        ·rw [if_neg c9] at H
         have c9b0 : decide (20 < (((rd_T25 l0 x10_1).f4).length : Int)) = false := decide_eq_false c9; have c9b1 : decide (20 < ((rd_T25 l0 x10_1).f4).length) = false := decide_eq_false (by omega); clear c9; have H' := aaM H; clear H; have p299 : 0 ≤ (x10_1 : Int) := of_decide_eq_true (by first | (with_reducible assumption) | assumption); have q299 : x10_1 < (l0.length : Int) := of_decide_eq_true (by first | (with_reducible assumption) | assumption); obtain ⟨ad299, A299_3, c299_3, A299_4, c299_4, e299, hx299_0, hx299_1, hx299_2, hx299_3, hx299_4, hl299_3, hi299_3, hl299_4, hi299_4⟩ := at_T25 HR0.out x10_1 p299 q299
         cases e299
         replace hx299_0 := (HB.out.cell (World.block_lt_of_cell? w _ hx299_0)).trans hx299_0; replace hx299_1 := (HB.out.cell (World.block_lt_of_cell? w _ hx299_1)).trans hx299_1; replace hx299_2 := (HB.out.cell (World.block_lt_of_cell? w _ hx299_2)).trans hx299_2; replace hx299_3 := (HB.out.cell (World.block_lt_of_cell? w _ hx299_3)).trans hx299_3; replace hx299_4 := (HB.out.cell (World.block_lt_of_cell? w _ hx299_4)).trans hx299_4; have HR299_3 := aaM hi299_3; have HC299_3 := aaM hl299_3; clear hi299_3 hl299_3; have HR299_4 := aaM hi299_4; have HC299_4 := aaM hl299_4; clear hi299_4 hl299_4; replace p299 := eq_true p299; replace q299 := eq_true q299
         go_wp2_with (first | ((with_reducible refine gate_dst (N := 4) rfl ?_); (try (refine gate_guard (by rfl) ?_; dsimp only)); refine bxE 4 #[.int .i64 0, .int .i64 0, .int .i64 0, .slice none 0 0, .slice none 0 0] 25 ?_; intro gb300 hg w12 hbox hb; have hP_ := lQ (lB HB) hb; replace HB := aaM hP_.1; have BK300 := aaM (hbox); have GW300 := aaM (gQ hg hP_.2); have GE300 := aaM (gQ hg hP_.2); clear hP_ hb hbox hg; obtain ⟨hcz13_0, hcz13_1, hcz13_2, hcz13_3, hcz13_4, hfz13_0, hfz13_1, hfz13_2, hfz13_3, hfz13_4⟩ := bE5 BK300.out))
         go_roundg k1
         case measure => have := HK1.out; omega
         case rel => exact ⟨(wrap64 (x10_1 + 1)), (eF), H', ⟨by have := HK1.out; omega⟩, ⟨lB HB⟩⟩
      ·rw [if_neg c5] at H
       exact absurd H (by simp)
     ·rw [if_neg c4] at H
      exact absurd H (by simp)
    ·rw [if_neg c3] at H
     have c3b0 : decide (x10_1 < (l0.length : Int)) = false := decide_eq_false c3; clear c3; obtain rfl := Option.some.inj H; go_wp2
     all_goals (go_ret; exact ⟨by first | rfl | (simp [errW_none, errW_some] <;> rfl) | (simp [*, errW_none, errW_some] <;> rfl) | (simp_all; done), lB HB⟩)

/-! ### hornbeamref12_May: function 28 -/
def hornbeamref12_May.j0 : Nat → Int → Int → Bool → Option (Bool)
 | 0, _, _, _ => none
 | k + 1, x0, x2, x12 => if x12 = true then (some false) else (if x0 = 0 then (if x2 ≥ 2 then (some (decide (x2 ≤ 256))) else (some false)) else (if x0 = 1 then (some (x2 == 0)) else (some false)))
def hornbeamref12_May.f (k : Nat) (a0 : Int) (a1 : Int) (a2 : Int) : Option (Bool) := if a1 < 1 then (hornbeamref12_May.j0 k a0 a2 true) else (hornbeamref12_May.j0 k a0 a2 (decide (a1 > 257)))
theorem hornbeamref12_May.mono_l : ∀ k, (∀ y0 y1 y2, LeO (hornbeamref12_May.j0 k y0 y1 y2) (hornbeamref12_May.j0 (k + 1) y0 y1 y2))
 | 0 => fun _ _ _ r h => by simp [hornbeamref12_May.j0] at h
 | k + 1 => by
  have ih0 := hornbeamref12_May.mono_l k
  ·intro y0 y1 y2
   unfold hornbeamref12_May.j0
   repeat' first
   | (with_reducible exact ih0 _ _ _)
   | (with_reducible exact LeO.refl _)
   | (with_reducible exact LeO.none _)
   | (with_reducible refine LeO.ite ?_ ?_)
   | (with_reducible refine LeO.bind ?_ (fun _ => ?_))
   | exact ih0 _ _ _
   | exact LeO.none _
   | refine LeO.ite ?_ ?_
   | refine LeO.bind ?_ (fun _ => ?_)
theorem hornbeamref12_May.mono : ∀ a0 a1 a2 k, LeO (hornbeamref12_May.f k a0 a1 a2) (hornbeamref12_May.f (k + 1) a0 a1 a2) := by
 intro a0 a1 a2 k
 have ih0 := hornbeamref12_May.mono_l k
 unfold hornbeamref12_May.f
 repeat' first
   | (with_reducible exact ih0 _ _ _)
   | (with_reducible exact LeO.refl _)
   | (with_reducible exact LeO.none _)
   | (with_reducible refine LeO.ite ?_ ?_)
   | (with_reducible refine LeO.bind ?_ (fun _ => ?_))
   | exact ih0 _ _ _
   | exact LeO.none _
   | refine LeO.ite ?_ ?_
   | refine LeO.bind ?_ (fun _ => ?_)
set_option maxHeartbeats 8000000 in
set_option maxRecDepth 100000 in
theorem hornbeamref12_May.calls (k : Nat) (a0 : Int) (a1 : Int) (a2 : Int) (r : Bool) (w : World) (h : hornbeamref12_May.f k a0 a1 a2 = some r) :
  Calls Try.prog 28 #[.int .i64 a0, .int .i64 a1, .int .i64 a2] w fun e w' => e = .returned (.bool r) ∧ Drawn0 w w' := by
 have H : (if a1 < 1 then (hornbeamref12_May.j0 k a0 a2 true) else (hornbeamref12_May.j0 k a0 a2 (decide (a1 > 257)))) = some r := h
 clear h
 have HC4 := aaM H
 clear H
 go_enter Try.func28, Try.ntmps28
 go_upto_region 1 with (fail)
 go_cut [12] (fun v12 wc => ∃ (kq : Nat) (x12_3 : Bool), v12 = .bool x12_3 ∧ Aside0 (hornbeamref12_May.j0 kq a0 a2 x12_3 = some r) ∧ Aside0 (kq ≤ k) ∧ Drawn0 w wc)
 case first =>
  have H := HC4.out; clear HC4
  by_cases c5 : a1 < 1
  ·rw [if_pos c5] at H
   have c5b0 : decide (a1 < 1) = true := decide_eq_true c5; clear c5; (first | rw [c5b0] | (simp only [i64_w, i32_w]; rw [c5b0]) | skip); have H' := aaM H; clear H; go_wp2
   go_meet
   case rel => exact ⟨_, (true), (eF), H', ⟨by first | omega | exact Nat.le_refl _⟩, by repeat (first | exact Drawn0.refl _ | apply Drawn0.step)⟩
  ·rw [if_neg c5] at H
   have c5b0 : decide (a1 < 1) = false := decide_eq_false c5; clear c5; (first | rw [c5b0] | (simp only [i64_w, i32_w]; rw [c5b0]) | skip); have H' := aaM H; clear H; go_wp2
   go_meet
   case rel => exact ⟨_, (decide (a1 > 257)), (eF), H', ⟨by first | omega | exact Nat.le_refl _⟩, by repeat (first | exact Drawn0.refl _ | apply Drawn0.step)⟩
 case rest =>
  clear HC4; (try clear c2); (try clear p2); (try clear c5); (try clear c5b0); obtain ⟨kq, x12_3, rfl, HA, HJ3, ⟨mc3, rfl⟩⟩ := hcut
  cases kq with
  | zero => exact absurd HA.out (by simp [hornbeamref12_May.j0])
  | succ kj3 =>
   have H := HA.out; clear HA; simp only [hornbeamref12_May.j0] at H
   by_cases c6 : x12_3 = true
   ·subst c6
    have H1 : (some false) = some r := by rw [if_pos rfl] at H; exact H
    clear H; have H := H1; clear H1; obtain rfl := Option.some.inj H; go_wp2
    all_goals (go_ret; exact ⟨eF, by repeat (first | exact Drawn0.refl _ | apply Drawn0.step)⟩)
   ·replace c6 := Bool.eq_false_iff.mpr c6
    subst c6
    have H1 : (if a0 = 0 then (if a2 ≥ 2 then (some (decide (a2 ≤ 256))) else (some false)) else (if a0 = 1 then (some (a2 == 0)) else (some false))) = some r := by rw [if_neg (show ¬ (false = true) by decide)] at H; exact H
    clear H; have H := H1; clear H1
    by_cases c7 : a0 = 0
    ·rw [if_pos c7] at H
     have c7b0 : (a0 == 0) = true := beq_iff_eq.mpr c7; have c7b1 : (a0 != 0) = false := bne_eq_false_iff_eq.mpr c7; clear c7
     by_cases c8 : a2 ≥ 2
     ·rw [if_pos c8] at H
      have c8b0 : decide (2 ≤ a2) = true := decide_eq_true c8; clear c8; obtain rfl := Option.some.inj H; go_wp2
      all_goals (go_ret; exact ⟨eF, by repeat (first | exact Drawn0.refl _ | apply Drawn0.step)⟩)
     ·rw [if_neg c8] at H
      have c8b0 : decide (2 ≤ a2) = false := decide_eq_false c8; clear c8; obtain rfl := Option.some.inj H; go_wp2
      all_goals (go_ret; exact ⟨eF, by repeat (first | exact Drawn0.refl _ | apply Drawn0.step)⟩)
    ·rw [if_neg c7] at H
     have c7b0 : (a0 == 0) = false := beq_eq_false_iff_ne.mpr c7; have c7b1 : (a0 != 0) = true := bne_iff_ne.mpr c7
     by_cases c9 : a0 = 1
     ·rw [if_pos c9] at H
      have c9b0 : (a0 == 1) = true := beq_iff_eq.mpr c9; have c9b1 : (a0 != 1) = false := bne_eq_false_iff_eq.mpr c9; clear c9; obtain rfl := Option.some.inj H; go_wp2
      all_goals (go_ret; exact ⟨eF, by repeat (first | exact Drawn0.refl _ | apply Drawn0.step)⟩)
     ·rw [if_neg c9] at H
      have c9b0 : (a0 == 1) = false := beq_eq_false_iff_ne.mpr c9; have c9b1 : (a0 != 1) = true := bne_iff_ne.mpr c9; obtain rfl := Option.some.inj H; go_wp2
      all_goals (go_ret; exact ⟨eF, by repeat (first | exact Drawn0.refl _ | apply Drawn0.step)⟩)

/-! ### hornbeamref12_Right: function 15 -/
def hornbeamref12_Right.f (k : Nat) (a0_0 : Int) (a0_1 : Int) (a0_2 : Int) (l0_3 : List Int) (l0_4 : List (S54)) : Option (Bool) := (hornbeamref12_May.f k a0_0 a0_1 a0_2).bind fun t302 => (if t302 = true then (if a0_0 = 0 then (if (l0_3.length : Int) = (wrap64 (a0_1 * a0_2)) then (some ((l0_4.length : Int) == 0)) else (some false)) else (if (l0_3.length : Int) = 0 then (some ((l0_4.length : Int) == a0_1)) else (some false))) else (some false))
theorem hornbeamref12_Right.mono : ∀ a0 a1 a2 a3 a4 k, LeO (hornbeamref12_Right.f k a0 a1 a2 a3 a4) (hornbeamref12_Right.f (k + 1) a0 a1 a2 a3 a4) := by
 intro a0 a1 a2 a3 a4 k
 unfold hornbeamref12_Right.f
 repeat' first
   | (with_reducible exact hornbeamref12_May.mono _ _ _ _)
   | (with_reducible exact LeO.refl _)
   | (with_reducible exact LeO.none _)
   | (with_reducible refine LeO.ite ?_ ?_)
   | (with_reducible refine LeO.bind ?_ (fun _ => ?_))
   | exact hornbeamref12_May.mono _ _ _ _
   | exact LeO.none _
   | refine LeO.ite ?_ ?_
   | refine LeO.bind ?_ (fun _ => ?_)
set_option maxHeartbeats 8000000 in
set_option maxRecDepth 100000 in
theorem hornbeamref12_Right.calls (k : Nat) (a0_0 : Int) (a0_1 : Int) (a0_2 : Int) (A0_3 : Option Addr) (c0_3 : Nat) (l0_3 : List Int) (A0_4 : Option Addr) (c0_4 : Nat) (l0_4 : List (S54)) (r : Bool) (w : World) (hr0_3 : Kd.C (Kd.int .i64) w A0_3 l0_3.length l0_3) (hc0_3 : l0_3.length ≤ c0_3) (hr0_4 : Kd.C k54 w A0_4 l0_4.length l0_4) (hc0_4 : l0_4.length ≤ c0_4) (h : hornbeamref12_Right.f k a0_0 a0_1 a0_2 l0_3 l0_4 = some r) :
  Calls Try.prog 15 #[.agg #[.int .i64 a0_0, .int .i64 a0_1, .int .i64 a0_2, .slice A0_3 l0_3.length c0_3, .slice A0_4 l0_4.length c0_4]] w fun e w' => e = .returned (.bool r) ∧ Below w.heap.size w w' := by
 have hu25 := Try.underlying25
 have HR0_3 := aaM hr0_3
 have HC0_3 := aaM hc0_3
 clear hr0_3 hc0_3
 have HR0_4 := aaM hr0_4
 have HC0_4 := aaM hc0_4
 clear hr0_4 hc0_4
 have HB := aaM (Below.refl w.heap.size w)
 have H : ((hornbeamref12_May.f k a0_0 a0_1 a0_2).bind fun t302 => (if t302 = true then (if a0_0 = 0 then (if (l0_3.length : Int) = (wrap64 (a0_1 * a0_2)) then (some ((l0_4.length : Int) == 0)) else (some false)) else (if (l0_3.length : Int) = 0 then (some ((l0_4.length : Int) == a0_1)) else (some false))) else (some false))) = some r := h
 clear h
 replace H := ooB.mp H
 obtain ⟨t302, A20, H⟩ := H
 replace H : (if t302 = true then (if a0_0 = 0 then (if (l0_3.length : Int) = (wrap64 (a0_1 * a0_2)) then (some ((l0_4.length : Int) == 0)) else (some false)) else (if (l0_3.length : Int) = 0 then (some ((l0_4.length : Int) == a0_1)) else (some false))) else (some false)) = some r := H
 have A2 := aaM A20
 clear A20
 by_cases c3 : t302 = true
 ·subst c3
  have H1 : (if a0_0 = 0 then (if (l0_3.length : Int) = (wrap64 (a0_1 * a0_2)) then (some ((l0_4.length : Int) == 0)) else (some false)) else (if (l0_3.length : Int) = 0 then (some ((l0_4.length : Int) == a0_1)) else (some false))) = some r := by rw [if_pos rfl] at H; exact H
  clear H; have H := H1; clear H1
  by_cases c4 : a0_0 = 0
  ·rw [if_pos c4] at H
   have c4b0 : (a0_0 == 0) = true := beq_iff_eq.mpr c4; have c4b1 : (a0_0 != 0) = false := bne_eq_false_iff_eq.mpr c4; clear c4
   by_cases c5 : (l0_3.length : Int) = (wrap64 (a0_1 * a0_2))
   ·rw [if_pos c5] at H
    have c5b0 : ((l0_3.length : Int) == (wrap64 (a0_1 * a0_2))) = true := beq_iff_eq.mpr c5; have c5b1 : ((l0_3.length : Int) != (wrap64 (a0_1 * a0_2))) = false := bne_eq_false_iff_eq.mpr c5; clear c5; obtain rfl := Option.some.inj H; go_enter Try.func15, Try.ntmps15
    go_wp2_with (first | ((with_reducible refine gate_dst (N := 1) rfl ?_); (try (refine gate_guard (by rfl) ?_; dsimp only)); refine bxE 1 #[.int .i64 a0_0, .int .i64 a0_1, .int .i64 a0_2, .slice A0_3 l0_3.length c0_3, .slice A0_4 l0_4.length c0_4] 25 ?_; intro gb301 hg w6 hbox hb; have hP_ := lQ (lB HB) hb; replace HB := aaM hP_.1; have BK301 := aaM (hbox); have GW301 := aaM (gQ hg hP_.2); have GE301 := aaM (gQ hg hP_.2); clear hP_ hb hbox hg; obtain ⟨hcz7_0, hcz7_1, hcz7_2, hcz7_3, hcz7_4, hfz7_0, hfz7_1, hfz7_2, hfz7_3, hfz7_4⟩ := bE5 BK301.out) | ((with_reducible refine gate_callee (f := 28) rfl ?_); refine gL (some 9) Try.func28 #[.int .i64 a0_0, .int .i64 a0_1, .int .i64 a0_2] ?_; (with_reducible refine (hornbeamref12_May.calls k a0_0 a0_1 a0_2 true _ A2.out).mono ?_); rintro e w' ⟨rfl, ⟨nd, rfl⟩⟩; refine ⟨_, rfl, ?_⟩))
    all_goals (go_ret; exact ⟨by first | rfl | (simp [errW_none, errW_some] <;> rfl) | (simp [*, errW_none, errW_some] <;> rfl) | (simp_all; done), lB HB⟩)
   ·rw [if_neg c5] at H
    have c5b0 : ((l0_3.length : Int) == (wrap64 (a0_1 * a0_2))) = false := beq_eq_false_iff_ne.mpr c5; have c5b1 : ((l0_3.length : Int) != (wrap64 (a0_1 * a0_2))) = true := bne_iff_ne.mpr c5; obtain rfl := Option.some.inj H; go_enter Try.func15, Try.ntmps15
    go_wp2_with (first | ((with_reducible refine gate_dst (N := 1) rfl ?_); (try (refine gate_guard (by rfl) ?_; dsimp only)); refine bxE 1 #[.int .i64 a0_0, .int .i64 a0_1, .int .i64 a0_2, .slice A0_3 l0_3.length c0_3, .slice A0_4 l0_4.length c0_4] 25 ?_; intro gb301 hg w8 hbox hb; have hP_ := lQ (lB HB) hb; replace HB := aaM hP_.1; have BK301 := aaM (hbox); have GW301 := aaM (gQ hg hP_.2); have GE301 := aaM (gQ hg hP_.2); clear hP_ hb hbox hg; obtain ⟨hcz9_0, hcz9_1, hcz9_2, hcz9_3, hcz9_4, hfz9_0, hfz9_1, hfz9_2, hfz9_3, hfz9_4⟩ := bE5 BK301.out) | ((with_reducible refine gate_callee (f := 28) rfl ?_); refine gL (some 9) Try.func28 #[.int .i64 a0_0, .int .i64 a0_1, .int .i64 a0_2] ?_; (with_reducible refine (hornbeamref12_May.calls k a0_0 a0_1 a0_2 true _ A2.out).mono ?_); rintro e w' ⟨rfl, ⟨nd, rfl⟩⟩; refine ⟨_, rfl, ?_⟩))
    all_goals (go_ret; exact ⟨by first | rfl | (simp [errW_none, errW_some] <;> rfl) | (simp [*, errW_none, errW_some] <;> rfl) | (simp_all; done), lB HB⟩)
  ·rw [if_neg c4] at H
   have c4b0 : (a0_0 == 0) = false := beq_eq_false_iff_ne.mpr c4; have c4b1 : (a0_0 != 0) = true := bne_iff_ne.mpr c4
   by_cases c10 : (l0_3.length : Int) = 0
   ·rw [if_pos c10] at H
    have c10b0 : ((l0_3.length : Int) == 0) = true := beq_iff_eq.mpr c10; have c10b1 : ((l0_3.length : Int) != 0) = false := bne_eq_false_iff_eq.mpr c10; clear c10; obtain rfl := Option.some.inj H; go_enter Try.func15, Try.ntmps15
    go_wp2_with (first | ((with_reducible refine gate_dst (N := 1) rfl ?_); (try (refine gate_guard (by rfl) ?_; dsimp only)); refine bxE 1 #[.int .i64 a0_0, .int .i64 a0_1, .int .i64 a0_2, .slice A0_3 l0_3.length c0_3, .slice A0_4 l0_4.length c0_4] 25 ?_; intro gb301 hg w11 hbox hb; have hP_ := lQ (lB HB) hb; replace HB := aaM hP_.1; have BK301 := aaM (hbox); have GW301 := aaM (gQ hg hP_.2); have GE301 := aaM (gQ hg hP_.2); clear hP_ hb hbox hg; obtain ⟨hcz12_0, hcz12_1, hcz12_2, hcz12_3, hcz12_4, hfz12_0, hfz12_1, hfz12_2, hfz12_3, hfz12_4⟩ := bE5 BK301.out) | ((with_reducible refine gate_callee (f := 28) rfl ?_); refine gL (some 9) Try.func28 #[.int .i64 a0_0, .int .i64 a0_1, .int .i64 a0_2] ?_; (with_reducible refine (hornbeamref12_May.calls k a0_0 a0_1 a0_2 true _ A2.out).mono ?_); rintro e w' ⟨rfl, ⟨nd, rfl⟩⟩; refine ⟨_, rfl, ?_⟩))
    all_goals (go_ret; exact ⟨by first | rfl | (simp [errW_none, errW_some] <;> rfl) | (simp [*, errW_none, errW_some] <;> rfl) | (simp_all; done), lB HB⟩)
   ·rw [if_neg c10] at H
    have c10b0 : ((l0_3.length : Int) == 0) = false := beq_eq_false_iff_ne.mpr c10; have c10b1 : ((l0_3.length : Int) != 0) = true := bne_iff_ne.mpr c10
    have c10b2 : ¬ (l0_3 = []) := fun h_ => c10 (by rw [h_]; rfl)
    obtain rfl := Option.some.inj H; go_enter Try.func15, Try.ntmps15
    go_wp2_with (first | ((with_reducible refine gate_dst (N := 1) rfl ?_); (try (refine gate_guard (by rfl) ?_; dsimp only)); refine bxE 1 #[.int .i64 a0_0, .int .i64 a0_1, .int .i64 a0_2, .slice A0_3 l0_3.length c0_3, .slice A0_4 l0_4.length c0_4] 25 ?_; intro gb301 hg w13 hbox hb; have hP_ := lQ (lB HB) hb; replace HB := aaM hP_.1; have BK301 := aaM (hbox); have GW301 := aaM (gQ hg hP_.2); have GE301 := aaM (gQ hg hP_.2); clear hP_ hb hbox hg; obtain ⟨hcz14_0, hcz14_1, hcz14_2, hcz14_3, hcz14_4, hfz14_0, hfz14_1, hfz14_2, hfz14_3, hfz14_4⟩ := bE5 BK301.out) | ((with_reducible refine gate_callee (f := 28) rfl ?_); refine gL (some 9) Try.func28 #[.int .i64 a0_0, .int .i64 a0_1, .int .i64 a0_2] ?_; (with_reducible refine (hornbeamref12_May.calls k a0_0 a0_1 a0_2 true _ A2.out).mono ?_); rintro e w' ⟨rfl, ⟨nd, rfl⟩⟩; refine ⟨_, rfl, ?_⟩))
    all_goals (go_ret; exact ⟨by first | rfl | (simp [errW_none, errW_some] <;> rfl) | (simp [*, errW_none, errW_some] <;> rfl) | (simp_all; done), lB HB⟩)
 ·replace c3 := Bool.eq_false_iff.mpr c3
  subst c3
  have H1 : (some false) = some r := by rw [if_neg (show ¬ (false = true) by decide)] at H; exact H
  clear H; have H := H1; clear H1; obtain rfl := Option.some.inj H; go_enter Try.func15, Try.ntmps15
  go_wp2_with (first | ((with_reducible refine gate_dst (N := 1) rfl ?_); (try (refine gate_guard (by rfl) ?_; dsimp only)); refine bxE 1 #[.int .i64 a0_0, .int .i64 a0_1, .int .i64 a0_2, .slice A0_3 l0_3.length c0_3, .slice A0_4 l0_4.length c0_4] 25 ?_; intro gb301 hg w15 hbox hb; have hP_ := lQ (lB HB) hb; replace HB := aaM hP_.1; have BK301 := aaM (hbox); have GW301 := aaM (gQ hg hP_.2); have GE301 := aaM (gQ hg hP_.2); clear hP_ hb hbox hg; obtain ⟨hcz16_0, hcz16_1, hcz16_2, hcz16_3, hcz16_4, hfz16_0, hfz16_1, hfz16_2, hfz16_3, hfz16_4⟩ := bE5 BK301.out) | ((with_reducible refine gate_callee (f := 28) rfl ?_); refine gL (some 9) Try.func28 #[.int .i64 a0_0, .int .i64 a0_1, .int .i64 a0_2] ?_; (with_reducible refine (hornbeamref12_May.calls k a0_0 a0_1 a0_2 false _ A2.out).mono ?_); rintro e w' ⟨rfl, ⟨nd, rfl⟩⟩; refine ⟨_, rfl, ?_⟩))
  all_goals (go_ret; exact ⟨by first | rfl | (simp [errW_none, errW_some] <;> rfl) | (simp [*, errW_none, errW_some] <;> rfl) | (simp_all; done), lB HB⟩)

/-! ### hornbeamref04_Compare: function 29 -/
def hornbeamref04_Compare.l0 : Nat → List Int → List Int → Int → Option (Int)
 | 0, _, _, _ => none
 | k + 1, x0, x1, x5 => if x5 ≥ 0 then (if 0 ≤ x5 then (if x5 < (x0.length : Int) then (if x5 < (x1.length : Int) then (if (rd x0 x5) < (rd x1 x5) then (some (-1)) else (if (rd x0 x5) > (rd x1 x5) then (some 1) else (hornbeamref04_Compare.l0 k x0 x1 (wrap64 (x5 - 1))))) else (none)) else (none)) else (none)) else (some 0)
def hornbeamref04_Compare.f (k : Nat) (l0 : List Int) (l1 : List Int) : Option (Int) := hornbeamref04_Compare.l0 k l0 l1 (wrap64 ((l0.length : Int) - 1))
theorem hornbeamref04_Compare.mono_l : ∀ k, (∀ y0 y1 y2, LeO (hornbeamref04_Compare.l0 k y0 y1 y2) (hornbeamref04_Compare.l0 (k + 1) y0 y1 y2))
 | 0 => fun _ _ _ r h => by simp [hornbeamref04_Compare.l0] at h
 | k + 1 => by
  have ih0 := hornbeamref04_Compare.mono_l k
  ·intro y0 y1 y2
   unfold hornbeamref04_Compare.l0
   repeat' first
   | (with_reducible exact ih0 _ _ _)
   | (with_reducible exact LeO.refl _)
   | (with_reducible exact LeO.none _)
   | (with_reducible refine LeO.ite ?_ ?_)
   | (with_reducible refine LeO.bind ?_ (fun _ => ?_))
   | exact ih0 _ _ _
   | exact LeO.none _
   | refine LeO.ite ?_ ?_
   | refine LeO.bind ?_ (fun _ => ?_)
theorem hornbeamref04_Compare.mono : ∀ a0 a1 k, LeO (hornbeamref04_Compare.f k a0 a1) (hornbeamref04_Compare.f (k + 1) a0 a1) := by
 intro a0 a1 k
 have ih0 := hornbeamref04_Compare.mono_l k
 unfold hornbeamref04_Compare.f
 repeat' first
   | (with_reducible exact ih0 _ _ _)
   | (with_reducible exact LeO.refl _)
   | (with_reducible exact LeO.none _)
   | (with_reducible refine LeO.ite ?_ ?_)
   | (with_reducible refine LeO.bind ?_ (fun _ => ?_))
   | exact ih0 _ _ _
   | exact LeO.none _
   | refine LeO.ite ?_ ?_
   | refine LeO.bind ?_ (fun _ => ?_)
set_option maxHeartbeats 8000000 in
set_option maxRecDepth 100000 in
theorem hornbeamref04_Compare.calls (k : Nat) (A0 : Option Addr) (c0 : Nat) (l0 : List Int) (A1 : Option Addr) (c1 : Nat) (l1 : List Int) (r : Int) (w : World) (hr0 : Kd.C (Kd.int .u64) w A0 l0.length l0) (hc0 : l0.length ≤ c0) (hr1 : Kd.C (Kd.int .u64) w A1 l1.length l1) (hc1 : l1.length ≤ c1) (h : hornbeamref04_Compare.f k l0 l1 = some r) :
  Calls Try.prog 29 #[.slice A0 l0.length c0, .slice A1 l1.length c1] w fun e w' => e = .returned (.int .i64 r) ∧ Drawn0 w w' := by
 have HR0 := aaM hr0
 have HC0 := aaM hc0
 clear hr0 hc0
 have HR1 := aaM hr1
 have HC1 := aaM hc1
 clear hr1 hc1
 have H : (hornbeamref04_Compare.l0 k l0 l1 (wrap64 ((l0.length : Int) - 1))) = some r := h
 clear h
 have H' := aaM H
 clear H
 go_enter Try.func29, Try.ntmps29
 go_wp2
 repeat (go_quiet (fail); try go_wp2)
 go_loopg [5] k (fun kq v5 w' => ∃ (x5_1 : Int), v5 = .int .i64 x5_1 ∧ Aside0 (hornbeamref04_Compare.l0 kq l0 l1 x5_1 = some r) ∧ Aside0 (kq ≤ k) ∧ Drawn0 w w')
 case atStart => exact ⟨(wrap64 ((l0.length : Int) - 1)), (eF), H', ⟨Nat.le_refl _⟩, by repeat (first | exact Drawn0.refl _ | apply Drawn0.step)⟩
 case round =>
  clear H'; (try clear c1); (try clear c2); (try clear p2); obtain ⟨x5_1, rfl, HA, HK1, ⟨m1, rfl⟩⟩ := hrel
  cases gk with
  | zero => exact absurd HA.out (by simp [hornbeamref04_Compare.l0])
  | succ k1 =>
   have H := HA.out; clear HA; simp only [hornbeamref04_Compare.l0] at H
   by_cases c3 : x5_1 ≥ 0
   ·rw [if_pos c3] at H
    have c3b0 : decide (0 ≤ x5_1) = true := decide_eq_true c3; clear c3
    by_cases c4 : 0 ≤ x5_1
    ·rw [if_pos c4] at H
     have c4b0 : decide (0 ≤ x5_1) = true := decide_eq_true c4; clear c4
     by_cases c5 : x5_1 < (l0.length : Int)
     ·rw [if_pos c5] at H
      have c5b0 : decide (x5_1 < (l0.length : Int)) = true := decide_eq_true c5; clear c5
      by_cases c6 : x5_1 < (l1.length : Int)
      ·rw [if_pos c6] at H
       have c6b0 : decide (x5_1 < (l1.length : Int)) = true := decide_eq_true c6; clear c6
       by_cases c7 : (rd l0 x5_1) < (rd l1 x5_1)
       ·rw [if_pos c7] at H
        have c7b0 : decide ((rd l0 x5_1) < (rd l1 x5_1)) = true := decide_eq_true c7; clear c7; obtain rfl := Option.some.inj H; have p303 : 0 ≤ (x5_1 : Int) := of_decide_eq_true (by first | (with_reducible assumption) | assumption); have q303 : x5_1 < (l0.length : Int) := of_decide_eq_true (by first | (with_reducible assumption) | assumption); obtain ⟨ad303, e303, hx303_0⟩ := Kd.at_int HR0.out x5_1 p303 q303
        cases e303
        replace p303 := eq_true p303; replace q303 := eq_true q303; have p304 : 0 ≤ (x5_1 : Int) := of_decide_eq_true (by first | (with_reducible assumption) | assumption); have q304 : x5_1 < (l1.length : Int) := of_decide_eq_true (by first | (with_reducible assumption) | assumption); obtain ⟨ad304, e304, hx304_0⟩ := Kd.at_int HR1.out x5_1 p304 q304
        cases e304
        replace p304 := eq_true p304; replace q304 := eq_true q304; go_wp2
        repeat (go_quiet (fail); try go_wp2)
        all_goals (go_ret; exact ⟨eF, by repeat (first | exact Drawn0.refl _ | apply Drawn0.step)⟩)
       ·rw [if_neg c7] at H
        have c7b0 : decide ((rd l0 x5_1) < (rd l1 x5_1)) = false := decide_eq_false c7; clear c7
        by_cases c8 : (rd l0 x5_1) > (rd l1 x5_1)
        ·rw [if_pos c8] at H
         have c8b0 : decide ((rd l1 x5_1) < (rd l0 x5_1)) = true := decide_eq_true c8; clear c8; obtain rfl := Option.some.inj H; have p303 : 0 ≤ (x5_1 : Int) := of_decide_eq_true (by first | (with_reducible assumption) | assumption); have q303 : x5_1 < (l0.length : Int) := of_decide_eq_true (by first | (with_reducible assumption) | assumption); obtain ⟨ad303, e303, hx303_0⟩ := Kd.at_int HR0.out x5_1 p303 q303
         cases e303
         replace p303 := eq_true p303; replace q303 := eq_true q303; have p304 : 0 ≤ (x5_1 : Int) := of_decide_eq_true (by first | (with_reducible assumption) | assumption); have q304 : x5_1 < (l1.length : Int) := of_decide_eq_true (by first | (with_reducible assumption) | assumption); obtain ⟨ad304, e304, hx304_0⟩ := Kd.at_int HR1.out x5_1 p304 q304
         cases e304
         replace p304 := eq_true p304; replace q304 := eq_true q304; have p305 : 0 ≤ (x5_1 : Int) := of_decide_eq_true (by first | (with_reducible assumption) | assumption); have q305 : x5_1 < (l0.length : Int) := of_decide_eq_true (by first | (with_reducible assumption) | assumption); obtain ⟨ad305, e305, hx305_0⟩ := Kd.at_int HR0.out x5_1 p305 q305; obtain rfl : ad303 = ad305 := (by injection e305); replace p305 := eq_true p305; replace q305 := eq_true q305; have p306 : 0 ≤ (x5_1 : Int) := of_decide_eq_true (by first | (with_reducible assumption) | assumption); have q306 : x5_1 < (l1.length : Int) := of_decide_eq_true (by first | (with_reducible assumption) | assumption); obtain ⟨ad306, e306, hx306_0⟩ := Kd.at_int HR1.out x5_1 p306 q306; obtain rfl : ad304 = ad306 := (by injection e306); replace p306 := eq_true p306; replace q306 := eq_true q306; go_wp2
         repeat (go_quiet (fail); try go_wp2)
         all_goals (go_ret; exact ⟨eF, by repeat (first | exact Drawn0.refl _ | apply Drawn0.step)⟩)
        ·rw [if_neg c8] at H
         have c8b0 : decide ((rd l1 x5_1) < (rd l0 x5_1)) = false := decide_eq_false c8; clear c8; have H' := aaM H; clear H; have p303 : 0 ≤ (x5_1 : Int) := of_decide_eq_true (by first | (with_reducible assumption) | assumption); have q303 : x5_1 < (l0.length : Int) := of_decide_eq_true (by first | (with_reducible assumption) | assumption); obtain ⟨ad303, e303, hx303_0⟩ := Kd.at_int HR0.out x5_1 p303 q303
         cases e303
         replace p303 := eq_true p303; replace q303 := eq_true q303; have p304 : 0 ≤ (x5_1 : Int) := of_decide_eq_true (by first | (with_reducible assumption) | assumption); have q304 : x5_1 < (l1.length : Int) := of_decide_eq_true (by first | (with_reducible assumption) | assumption); obtain ⟨ad304, e304, hx304_0⟩ := Kd.at_int HR1.out x5_1 p304 q304
         cases e304
         replace p304 := eq_true p304; replace q304 := eq_true q304; have p305 : 0 ≤ (x5_1 : Int) := of_decide_eq_true (by first | (with_reducible assumption) | assumption); have q305 : x5_1 < (l0.length : Int) := of_decide_eq_true (by first | (with_reducible assumption) | assumption); obtain ⟨ad305, e305, hx305_0⟩ := Kd.at_int HR0.out x5_1 p305 q305; obtain rfl : ad303 = ad305 := (by injection e305); replace p305 := eq_true p305; replace q305 := eq_true q305; have p306 : 0 ≤ (x5_1 : Int) := of_decide_eq_true (by first | (with_reducible assumption) | assumption); have q306 : x5_1 < (l1.length : Int) := of_decide_eq_true (by first | (with_reducible assumption) | assumption); obtain ⟨ad306, e306, hx306_0⟩ := Kd.at_int HR1.out x5_1 p306 q306; obtain rfl : ad304 = ad306 := (by injection e306); replace p306 := eq_true p306; replace q306 := eq_true q306; go_wp2
         repeat (go_quiet (fail); try go_wp2)
         go_roundg k1
         case measure => have := HK1.out; omega
         case rel => exact ⟨(wrap64 (x5_1 - 1)), (eF), H', ⟨by have := HK1.out; omega⟩, by repeat (first | exact Drawn0.refl _ | apply Drawn0.step)⟩
      ·rw [if_neg c6] at H
       exact absurd H (by simp)
     ·rw [if_neg c5] at H
      exact absurd H (by simp)
    ·rw [if_neg c4] at H
     exact absurd H (by simp)
   ·rw [if_neg c3] at H
    have c3b0 : decide (0 ≤ x5_1) = false := decide_eq_false c3; clear c3; obtain rfl := Option.some.inj H; go_wp2
    repeat (go_quiet (fail); try go_wp2)
    all_goals (go_ret; exact ⟨eF, by repeat (first | exact Drawn0.refl _ | apply Drawn0.step)⟩)

/-! ### hornbeamref04_Product: function 30 -/
mutual
def hornbeamref04_Product.l0 : Nat → List Int → List Int → List Int → Int → Option (List Int)
 | 0, _, _, _, _ => none
 | k + 1, x0, x1, x5, x6 => if x6 < (x0.length : Int) then (hornbeamref04_Product.l1 k x0 x1 x5 x6 0 0) else (some x5)
def hornbeamref04_Product.l1 : Nat → List Int → List Int → List Int → Int → Int → Int → Option (List Int)
 | 0, _, _, _, _, _, _ => none
 | k + 1, x0, x1, x5, x6, x7, x8 => if x8 < (x1.length : Int) then (if 0 ≤ (wrap64 (x6 + x8)) then (if (wrap64 (x6 + x8)) < (x5.length : Int) then (if 0 ≤ x6 then (if x6 < (x0.length : Int) then (if 0 ≤ x8 then (hornbeamref04_Product.l1 k x0 x1 (x5.set ((wrap64 (x6 + x8)) : Int).toNat (Int.tmod (IntKind.u64.wrap ((IntKind.u64.wrap ((rd x5 (wrap64 (x6 + x8))) + (IntKind.u64.wrap ((rd x0 x6) * (rd x1 x8))))) + x7)) 65536)) x6 (IntKind.u64.wrap (Int.tdiv (IntKind.u64.wrap ((IntKind.u64.wrap ((rd x5 (wrap64 (x6 + x8))) + (IntKind.u64.wrap ((rd x0 x6) * (rd x1 x8))))) + x7)) 65536)) (wrap64 (x8 + 1))) else (none)) else (none)) else (none)) else (none)) else (none)) else (if 0 ≤ (wrap64 (x6 + (x1.length : Int))) then (if (wrap64 (x6 + (x1.length : Int))) < (x5.length : Int) then (hornbeamref04_Product.l0 k x0 x1 (x5.set ((wrap64 (x6 + (x1.length : Int))) : Int).toNat x7) (wrap64 (x6 + 1))) else (none)) else (none))
end
def hornbeamref04_Product.f (k : Nat) (l0 : List Int) (l1 : List Int) : Option (List Int) := if 0 ≤ (wrap64 ((l0.length : Int) + (l1.length : Int))) then (if (wrap64 ((l0.length : Int) + (l1.length : Int)) : Int).toNat ≤ 35184372088832 then (hornbeamref04_Product.l0 k l0 l1 (List.replicate (wrap64 ((l0.length : Int) + (l1.length : Int)) : Int).toNat 0) 0) else (none)) else (none)
theorem hornbeamref04_Product.mono_l : ∀ k, (∀ y0 y1 y2 y3, LeO (hornbeamref04_Product.l0 k y0 y1 y2 y3) (hornbeamref04_Product.l0 (k + 1) y0 y1 y2 y3)) ∧ (∀ y0 y1 y2 y3 y4 y5, LeO (hornbeamref04_Product.l1 k y0 y1 y2 y3 y4 y5) (hornbeamref04_Product.l1 (k + 1) y0 y1 y2 y3 y4 y5))
 | 0 => ⟨fun _ _ _ _ r h => by simp [hornbeamref04_Product.l0] at h, fun _ _ _ _ _ _ r h => by simp [hornbeamref04_Product.l1] at h⟩
 | k + 1 => by
  obtain ⟨ih0, ih1⟩ := hornbeamref04_Product.mono_l k
  refine ⟨?_, ?_⟩
  all_goals (intros; first | unfold hornbeamref04_Product.l0 | unfold hornbeamref04_Product.l1)
  all_goals repeat' first
   | (with_reducible exact ih0 _ _ _ _)
   | (with_reducible exact ih1 _ _ _ _ _ _)
   | (with_reducible exact LeO.refl _)
   | (with_reducible exact LeO.none _)
   | (with_reducible refine LeO.ite ?_ ?_)
   | (with_reducible refine LeO.bind ?_ (fun _ => ?_))
   | exact ih0 _ _ _ _
   | exact ih1 _ _ _ _ _ _
   | exact LeO.none _
   | refine LeO.ite ?_ ?_
   | refine LeO.bind ?_ (fun _ => ?_)
theorem hornbeamref04_Product.mono : ∀ a0 a1 k, LeO (hornbeamref04_Product.f k a0 a1) (hornbeamref04_Product.f (k + 1) a0 a1) := by
 intro a0 a1 k
 obtain ⟨ih0, ih1⟩ := hornbeamref04_Product.mono_l k
 unfold hornbeamref04_Product.f
 repeat' first
   | (with_reducible exact ih0 _ _ _ _)
   | (with_reducible exact ih1 _ _ _ _ _ _)
   | (with_reducible exact LeO.refl _)
   | (with_reducible exact LeO.none _)
   | (with_reducible refine LeO.ite ?_ ?_)
   | (with_reducible refine LeO.bind ?_ (fun _ => ?_))
   | exact ih0 _ _ _ _
   | exact ih1 _ _ _ _ _ _
   | exact LeO.none _
   | refine LeO.ite ?_ ?_
   | refine LeO.bind ?_ (fun _ => ?_)
set_option maxHeartbeats 8000000 in
set_option maxRecDepth 100000 in
theorem hornbeamref04_Product.calls (k : Nat) (A0 : Option Addr) (c0 : Nat) (l0 : List Int) (A1 : Option Addr) (c1 : Nat) (l1 : List Int) (r : List Int) (w : World) (hr0 : Kd.C (Kd.int .u64) w A0 l0.length l0) (hc0 : l0.length ≤ c0) (hr1 : Kd.C (Kd.int .u64) w A1 l1.length l1) (hc1 : l1.length ≤ c1) (h : hornbeamref04_Product.f k l0 l1 = some r) :
  Calls Try.prog 30 #[.slice A0 l0.length c0, .slice A1 l1.length c1] w fun e w' => ∃ v0_ : Value, e = .returned (v0_) ∧ Kd.R (Kd.int .u64) 28 w' w.heap.size (fun _ => True) v0_ r ∧ Below w.heap.size w w' := by
 have HR0 := aaM hr0
 have HC0 := aaM hc0
 clear hr0 hc0
 have HR1 := aaM hr1
 have HC1 := aaM hc1
 clear hr1 hc1
 have HB := aaM (Below.refl w.heap.size w)
 have H : (if 0 ≤ (wrap64 ((l0.length : Int) + (l1.length : Int))) then (if (wrap64 ((l0.length : Int) + (l1.length : Int)) : Int).toNat ≤ 35184372088832 then (hornbeamref04_Product.l0 k l0 l1 (List.replicate (wrap64 ((l0.length : Int) + (l1.length : Int)) : Int).toNat 0) 0) else (none)) else (none)) = some r := h
 clear h
 obtain ⟨ji3, hji3⟩ : ∃ j_ : Int, (wrap64 ((l0.length : Int) + (l1.length : Int))) = j_ := ⟨_, rfl⟩
 replace H : (if 0 ≤ (ji3) then (if (ji3 : Int).toNat ≤ 35184372088832 then (hornbeamref04_Product.l0 k l0 l1 (List.replicate (ji3 : Int).toNat 0) 0) else (none)) else (none)) = some r := by first | (rw [hji3] at H; exact H) | (simp only [hji3] at H ⊢; exact H)
 have hji3w : (IntKind.i64.wrap ((l0.length : Int) + (l1.length : Int))) = ji3 := (i64_w _).trans hji3
 by_cases c4 : 0 ≤ (ji3)
 ·rw [if_pos c4] at H
  have c4b0 := eq_true c4; have c4b1 : decide (0 ≤ (ji3)) = true := decide_eq_true c4; clear c4
  by_cases c5 : (ji3 : Int).toNat ≤ 35184372088832
  ·rw [if_pos c5] at H
   have c5b0 := eq_true c5; have c5b1 : decide ((ji3 : Int).toNat ≤ 35184372088832) = true := decide_eq_true c5; clear c5; obtain ⟨y307, hy307⟩ : ∃ y_ : List Int, y_ = (List.replicate (ji3 : Int).toNat 0) := ⟨_, rfl⟩
   replace H : (hornbeamref04_Product.l0 k l0 l1 y307 0) = some r := by first | (rw [hy307]; with_reducible exact H) | (have H2_ := (Option.bind_some _ _).symm.trans H; rw [hy307]; with_reducible exact H2_) | (have H2_ := (Option.bind_some _ _).symm.trans H; with_reducible exact H2_) | with_reducible exact H | (rw [hy307]; exact H) | exact H
   have Ny307 := aaM hy307; clear hy307; have H' := aaM H; clear H; go_enter Try.func30, Try.ntmps30
   go_wp2_with (first | ((with_reducible refine gate_dst (N := 15) rfl ?_); refine Kd.R_make (Kd.int .u64) _ 28 rfl (N := 15) rfl 74 _ _ rfl ji3 rfl rfl Try.underlying74 (.int .u64 0) 8 info28 rfl (by decide) (by omega) 0 (ok := fun _ => True) (okp := fun _ => True) rfl (fun _ hk => hk) trivial (of_decide_eq_true (by first | (with_reducible assumption) | assumption)) (Nat.le_trans (Nat.mul_le_mul_right _ (of_decide_eq_true (by first | (with_reducible assumption) | assumption) : ji3.toNat ≤ 35184372088832)) (by omega)) (Below.refl _ _) (Nat.le_refl _) ?_; intro v308 w6 ho7 hb hg_ hnew_; clear hg_ hnew_; (first | rw [← Ny307.out] at ho7 | (simp only [Int.reduceToNat] at ho7; rw [← Ny307.out] at ho7)); have HO309 := aaM (Kd.R_lower ho7 (lZ (lB HB))); replace HB := aaM (lP (lB HB) hb); clear hb ho7))
   repeat (go_quiet (first | ((with_reducible refine gate_dst (N := 15) rfl ?_); refine Kd.R_make (Kd.int .u64) _ 28 rfl (N := 15) rfl 74 _ _ rfl ji3 rfl rfl Try.underlying74 (.int .u64 0) 8 info28 rfl (by decide) (by omega) 0 (ok := fun _ => True) (okp := fun _ => True) rfl (fun _ hk => hk) trivial (of_decide_eq_true (by first | (with_reducible assumption) | assumption)) (Nat.le_trans (Nat.mul_le_mul_right _ (of_decide_eq_true (by first | (with_reducible assumption) | assumption) : ji3.toNat ≤ 35184372088832)) (by omega)) (Below.refl _ _) (Nat.le_refl _) ?_; intro v308 w6 ho7 hb hg_ hnew_; clear hg_ hnew_; (first | rw [← Ny307.out] at ho7 | (simp only [Int.reduceToNat] at ho7; rw [← Ny307.out] at ho7)); have n0_ := aaM (Kd.R_lower ho7 (lZ (lB HB))); have n1_ := aaM (lP (lB HB) hb); clear HB; have HO309 := n0_; have HB := n1_; clear n0_ n1_; clear hb ho7)); try go_wp2_with (first | ((with_reducible refine gate_dst (N := 15) rfl ?_); refine Kd.R_make (Kd.int .u64) _ 28 rfl (N := 15) rfl 74 _ _ rfl ji3 rfl rfl Try.underlying74 (.int .u64 0) 8 info28 rfl (by decide) (by omega) 0 (ok := fun _ => True) (okp := fun _ => True) rfl (fun _ hk => hk) trivial (of_decide_eq_true (by first | (with_reducible assumption) | assumption)) (Nat.le_trans (Nat.mul_le_mul_right _ (of_decide_eq_true (by first | (with_reducible assumption) | assumption) : ji3.toNat ≤ 35184372088832)) (by omega)) (Below.refl _ _) (Nat.le_refl _) ?_; intro v308 w6 ho7 hb hg_ hnew_; clear hg_ hnew_; (first | rw [← Ny307.out] at ho7 | (simp only [Int.reduceToNat] at ho7; rw [← Ny307.out] at ho7)); have n0_ := aaM (Kd.R_lower ho7 (lZ (lB HB))); have n1_ := aaM (lP (lB HB) hb); clear HB; have HO309 := n0_; have HB := n1_; clear n0_ n1_; clear hb ho7)))
   go_loopg [6] k (fun kq v6 w' => ∃ (x5_1 : List Int) (x6_1 : Int), v6 = .int .i64 x6_1 ∧ Aside0 (hornbeamref04_Product.l0 kq l0 l1 x5_1 x6_1 = some r) ∧ Aside0 (kq ≤ k) ∧ Aside0 (Kd.R (Kd.int .u64) 28 w' w.heap.size (fun _ => True) v308 x5_1) ∧ Aside0 (Below w.heap.size w w'))
   case atStart => exact ⟨(y307), (0), (eF), H', ⟨Nat.le_refl _⟩, ⟨rZ HO309⟩, ⟨lB HB⟩⟩
   case round =>
    clear H'; (try clear c1); (try clear p2); (try clear c3); (try clear c4); (try clear c4b0); (try clear c4b1); (try clear c5); (try clear c5b0); (try clear c5b1); (try clear p6); obtain ⟨x5_1, x6_1, rfl, HA, HK1, HO_5, HB⟩ := hrel
    cases gk with
    | zero => exact absurd HA.out (by simp [hornbeamref04_Product.l0])
    | succ k1 =>
     have H := HA.out; clear HA; simp only [hornbeamref04_Product.l0] at H
     by_cases c8 : x6_1 < (l0.length : Int)
     ·rw [if_pos c8] at H
      have c8b0 : decide (x6_1 < (l0.length : Int)) = true := decide_eq_true c8; clear c8; have H' := aaM H; clear H; go_wp2
      repeat (go_quiet (fail); try go_wp2)
      go_loopg [7, 8] k1 (fun kq v7 v8 w' => ∃ (x5_2 : List Int) (x7_2 : Int) (x8_2 : Int), v7 = .int .u64 x7_2 ∧ v8 = .int .i64 x8_2 ∧ Aside0 (hornbeamref04_Product.l1 kq l0 l1 x5_2 x6_1 x7_2 x8_2 = some r) ∧ Aside0 (kq ≤ k1) ∧ Aside0 (Kd.R (Kd.int .u64) 28 w' w.heap.size (fun _ => True) v308 x5_2) ∧ Aside0 (Below w.heap.size w w'))
      case atStart => exact ⟨(x5_1), (0), (0), (eF), (eF), H', ⟨Nat.le_refl _⟩, ⟨rZ HO_5⟩, ⟨lB HB⟩⟩
      case round =>
       clear H'; (try clear c1); (try clear p2); (try clear c3); (try clear c4); (try clear c4b0); (try clear c4b1); (try clear c5); (try clear c5b0); (try clear c5b1); (try clear p6); (try clear c8); (try clear c8b0); (try clear p2); (try clear p6); obtain ⟨x5_2, x7_2, x8_2, rfl, rfl, HA, HK2, HO_5, HB⟩ := hrel
       cases gk with
       | zero => exact absurd HA.out (by simp [hornbeamref04_Product.l1])
       | succ k2 =>
        have H := HA.out; clear HA; simp only [hornbeamref04_Product.l1] at H
        by_cases c9 : x8_2 < (l1.length : Int)
        ·rw [if_pos c9] at H
         have c9b0 : decide (x8_2 < (l1.length : Int)) = true := decide_eq_true c9; clear c9; obtain ⟨ji10, hji10⟩ : ∃ j_ : Int, (wrap64 (x6_1 + x8_2)) = j_ := ⟨_, rfl⟩
         replace H : (if 0 ≤ (ji10) then (if (ji10) < (x5_2.length : Int) then (if 0 ≤ x6_1 then (if x6_1 < (l0.length : Int) then (if 0 ≤ x8_2 then (hornbeamref04_Product.l1 k2 l0 l1 (x5_2.set ((ji10) : Int).toNat (Int.tmod (IntKind.u64.wrap ((IntKind.u64.wrap ((rd x5_2 (ji10)) + (IntKind.u64.wrap ((rd l0 x6_1) * (rd l1 x8_2))))) + x7_2)) 65536)) x6_1 (IntKind.u64.wrap (Int.tdiv (IntKind.u64.wrap ((IntKind.u64.wrap ((rd x5_2 (ji10)) + (IntKind.u64.wrap ((rd l0 x6_1) * (rd l1 x8_2))))) + x7_2)) 65536)) (wrap64 (x8_2 + 1))) else (none)) else (none)) else (none)) else (none)) else (none)) = some r := by first | (rw [hji10] at H; exact H) | (simp only [hji10] at H ⊢; exact H)
         have hji10w : (IntKind.i64.wrap (x6_1 + x8_2)) = ji10 := (i64_w _).trans hji10
         by_cases c11 : 0 ≤ (ji10)
         ·rw [if_pos c11] at H
          have c11b0 : decide (0 ≤ (ji10)) = true := decide_eq_true c11; clear c11
          by_cases c12 : (ji10) < (x5_2.length : Int)
          ·rw [if_pos c12] at H
           have c12b0 : decide ((ji10) < (x5_2.length : Int)) = true := decide_eq_true c12; clear c12
           by_cases c13 : 0 ≤ x6_1
           ·rw [if_pos c13] at H
            have c13b0 : decide (0 ≤ x6_1) = true := decide_eq_true c13; clear c13
            by_cases c14 : x6_1 < (l0.length : Int)
            ·rw [if_pos c14] at H
             have c14b0 : decide (x6_1 < (l0.length : Int)) = true := decide_eq_true c14; clear c14
             by_cases c15 : 0 ≤ x8_2
             ·rw [if_pos c15] at H
              have c15b0 : decide (0 ≤ x8_2) = true := decide_eq_true c15; clear c15; obtain ⟨y313, hy313⟩ : ∃ y_ : List Int, y_ = (x5_2.set ((ji10) : Int).toNat (Int.tmod (IntKind.u64.wrap ((IntKind.u64.wrap ((rd x5_2 (ji10)) + (IntKind.u64.wrap ((rd l0 x6_1) * (rd l1 x8_2))))) + x7_2)) 65536)) := ⟨_, rfl⟩
              replace H : (hornbeamref04_Product.l1 k2 l0 l1 y313 x6_1 (IntKind.u64.wrap (Int.tdiv (IntKind.u64.wrap ((IntKind.u64.wrap ((rd x5_2 (ji10)) + (IntKind.u64.wrap ((rd l0 x6_1) * (rd l1 x8_2))))) + x7_2)) 65536)) (wrap64 (x8_2 + 1))) = some r := by first | (rw [hy313]; with_reducible exact H) | (have H2_ := (Option.bind_some _ _).symm.trans H; rw [hy313]; with_reducible exact H2_) | (have H2_ := (Option.bind_some _ _).symm.trans H; with_reducible exact H2_) | with_reducible exact H | (rw [hy313]; exact H) | exact H
              have Ny313 := aaM hy313; clear hy313; have H' := aaM H; clear H; obtain ⟨Ao17, co17, eo17⟩ := Kd.R_slice HO_5.out; subst eo17; have p310 : 0 ≤ ((ji10) : Int) := of_decide_eq_true (by first | (with_reducible assumption) | assumption); have q310 : (ji10) < (x5_2.length : Int) := of_decide_eq_true (by first | (with_reducible assumption) | assumption); obtain ⟨ad310, e310, hx310_0⟩ := Kd.at_int (Kd.R_reads' HO_5.out).2.2 (ji10) p310 q310
              cases e310
              replace p310 := eq_true p310; replace q310 := eq_true q310; have p311 : 0 ≤ (x6_1 : Int) := of_decide_eq_true (by first | (with_reducible assumption) | assumption); have q311 : x6_1 < (l0.length : Int) := of_decide_eq_true (by first | (with_reducible assumption) | assumption); obtain ⟨ad311, e311, hx311_0⟩ := Kd.at_int HR0.out x6_1 p311 q311
              cases e311
              replace hx311_0 := (HB.out.cell (World.block_lt_of_cell? w _ hx311_0)).trans hx311_0; replace p311 := eq_true p311; replace q311 := eq_true q311; have p312 : 0 ≤ (x8_2 : Int) := of_decide_eq_true (by first | (with_reducible assumption) | assumption); have q312 : x8_2 < (l1.length : Int) := of_decide_eq_true (by first | (with_reducible assumption) | assumption); obtain ⟨ad312, e312, hx312_0⟩ := Kd.at_int HR1.out x8_2 p312 q312
              cases e312
              replace hx312_0 := (HB.out.cell (World.block_lt_of_cell? w _ hx312_0)).trans hx312_0; replace p312 := eq_true p312; replace q312 := eq_true q312; have p16 : 0 ≤ ((ji10) : Int) := of_decide_eq_true (by first | (with_reducible assumption) | assumption); have q16 : ((ji10) : Int) < ((x5_2.length : Int) : Int) := of_decide_eq_true (by first | (with_reducible assumption) | assumption); obtain ⟨go16, co16, eo16, gb16, gl16, cl16, HG16⟩ := Kd.R_form HO_5.out (by omega); (first | cases eo16 | (injection eo16 with ea_ en_ ec_; (first | subst ea_ | (injection ea_ with ea_; subst ea_)); subst ec_; clear en_)); have GB16 := aaM gb16; have GG16 := aaM HG16; clear gb16 gl16 HG16; (first | simp only [add_plain] at hx310_0 | skip); obtain ⟨hx16_0, hf16_0⟩ := Kd.R_celln 0 HO_5.out ((ji10) : Int) p16 q16; replace p16 := eq_true p16; replace q16 := eq_true q16; have HP18 := Kd.R_putg HO_5.out ((ji10) : Int) (Int.tmod (IntKind.u64.wrap ((IntKind.u64.wrap ((rd x5_2 (ji10)) + (IntKind.u64.wrap ((rd l0 x6_1) * (rd l1 x8_2))))) + x7_2)) 65536)
              go_wp2_with (first | ((with_reducible refine gate_store (t := 28) (p := 52) rfl ?_); (try (rw [drewN_self wr]; generalize hq_ : World.drewN wr _ = wr; have n0_ := aaM (Kd.R_at hq_ HO_5.out); have n1_ := aaM (below_at hq_ HB.out); clear hq_ HO_5 HB; have HO_5 := n0_; have HB := n1_; clear n0_ n1_; (try (have HP18 := Kd.R_putg HO_5.out ((ji10) : Int) (Int.tmod (IntKind.u64.wrap ((IntKind.u64.wrap ((rd x5_2 (ji10)) + (IntKind.u64.wrap ((rd l0 x6_1) * (rd l1 x8_2))))) + x7_2)) 65536))); (try (obtain ⟨hy16_0, hg16_0⟩ := Kd.R_celln 0 HO_5.out ((ji10) : Int) (of_eq_true p16) (of_eq_true q16))))); refine store_event (t := 28) (p := 52) (v := ?vo_w19) (w1 := (wr.setCell ⟨go16, ((ji10) : Int).toNat, none⟩ (.int .u64 (Int.tmod (IntKind.u64.wrap ((IntKind.u64.wrap ((rd x5_2 (ji10)) + (IntKind.u64.wrap ((rd l0 x6_1) * (rd l1 x8_2))))) + x7_2)) 65536)))) ?hg ?ho ?hn ?hr ?_; (case ho => rfl); (case hg => rfl); (case hn => rfl); (case hr => first | (go_simp; done) | (go_simp; rfl)); intro w19 hw; have hg : wr.grownBy w19 (some go16) := (by rw [hw]; exact HP18.2); have hp_ : Kd.R (Kd.int .u64) 28 w19 w.heap.size (fun _ => True) (.slice (some ⟨go16, 0, none⟩) x5_2.length co17) y313 := (by rw [hw, Ny313.out]; exact HP18.1); clear HP18; replace HO_5 := aaM (hp_); replace HB := aaM ((by rw [hw]; exact lS (HB.out) GB16.out : Below w.heap.size w w19)); clear hg hw hp_))
              repeat (go_quiet (first | ((with_reducible refine gate_store (t := 28) (p := 52) rfl ?_); (try (rw [drewN_self wr]; generalize hq_ : World.drewN wr _ = wr; have n0_ := aaM (Kd.R_at hq_ HO_5.out); have n1_ := aaM (below_at hq_ HB.out); clear hq_ HO_5 HB; have HO_5 := n0_; have HB := n1_; clear n0_ n1_; (try (have HP18 := Kd.R_putg HO_5.out ((ji10) : Int) (Int.tmod (IntKind.u64.wrap ((IntKind.u64.wrap ((rd x5_2 (ji10)) + (IntKind.u64.wrap ((rd l0 x6_1) * (rd l1 x8_2))))) + x7_2)) 65536))); (try (obtain ⟨hy16_0, hg16_0⟩ := Kd.R_celln 0 HO_5.out ((ji10) : Int) (of_eq_true p16) (of_eq_true q16))))); refine store_event (t := 28) (p := 52) (v := ?vo_w19) (w1 := (wr.setCell ⟨go16, ((ji10) : Int).toNat, none⟩ (.int .u64 (Int.tmod (IntKind.u64.wrap ((IntKind.u64.wrap ((rd x5_2 (ji10)) + (IntKind.u64.wrap ((rd l0 x6_1) * (rd l1 x8_2))))) + x7_2)) 65536)))) ?hg ?ho ?hn ?hr ?_; (case ho => rfl); (case hg => rfl); (case hn => rfl); (case hr => first | (go_simp; done) | (go_simp; rfl)); intro w19 hw; have hg : wr.grownBy w19 (some go16) := (by rw [hw]; exact HP18.2); have hp_ : Kd.R (Kd.int .u64) 28 w19 w.heap.size (fun _ => True) (.slice (some ⟨go16, 0, none⟩) x5_2.length co17) y313 := (by rw [hw, Ny313.out]; exact HP18.1); clear HP18; have n0_ := aaM (hp_); have n1_ := aaM ((by rw [hw]; exact lS (HB.out) GB16.out : Below w.heap.size w w19)); clear HO_5; clear HB; have HO_5 := n0_; have HB := n1_; clear n0_ n1_; clear hg hw hp_)); try go_wp2_with (first | ((with_reducible refine gate_store (t := 28) (p := 52) rfl ?_); (try (rw [drewN_self wr]; generalize hq_ : World.drewN wr _ = wr; have n0_ := aaM (Kd.R_at hq_ HO_5.out); have n1_ := aaM (below_at hq_ HB.out); clear hq_ HO_5 HB; have HO_5 := n0_; have HB := n1_; clear n0_ n1_; (try (have HP18 := Kd.R_putg HO_5.out ((ji10) : Int) (Int.tmod (IntKind.u64.wrap ((IntKind.u64.wrap ((rd x5_2 (ji10)) + (IntKind.u64.wrap ((rd l0 x6_1) * (rd l1 x8_2))))) + x7_2)) 65536))); (try (obtain ⟨hy16_0, hg16_0⟩ := Kd.R_celln 0 HO_5.out ((ji10) : Int) (of_eq_true p16) (of_eq_true q16))))); refine store_event (t := 28) (p := 52) (v := ?vo_w19) (w1 := (wr.setCell ⟨go16, ((ji10) : Int).toNat, none⟩ (.int .u64 (Int.tmod (IntKind.u64.wrap ((IntKind.u64.wrap ((rd x5_2 (ji10)) + (IntKind.u64.wrap ((rd l0 x6_1) * (rd l1 x8_2))))) + x7_2)) 65536)))) ?hg ?ho ?hn ?hr ?_; (case ho => rfl); (case hg => rfl); (case hn => rfl); (case hr => first | (go_simp; done) | (go_simp; rfl)); intro w19 hw; have hg : wr.grownBy w19 (some go16) := (by rw [hw]; exact HP18.2); have hp_ : Kd.R (Kd.int .u64) 28 w19 w.heap.size (fun _ => True) (.slice (some ⟨go16, 0, none⟩) x5_2.length co17) y313 := (by rw [hw, Ny313.out]; exact HP18.1); clear HP18; have n0_ := aaM (hp_); have n1_ := aaM ((by rw [hw]; exact lS (HB.out) GB16.out : Below w.heap.size w w19)); clear HO_5; clear HB; have HO_5 := n0_; have HB := n1_; clear n0_ n1_; clear hg hw hp_)))
              go_roundg k2
              case measure => have := HK1.out; have := HK2.out; omega
              case rel => exact ⟨(y313), (IntKind.u64.wrap (Int.tdiv (IntKind.u64.wrap ((IntKind.u64.wrap ((rd x5_2 (ji10)) + (IntKind.u64.wrap ((rd l0 x6_1) * (rd l1 x8_2))))) + x7_2)) 65536)), (wrap64 (x8_2 + 1)), (by first | rfl | (simp; done) | (simp only [← hji10] <;> (first | rfl | simp)) | (simp [*]; done)), (eF), H', ⟨by have := HK1.out; have := HK2.out; omega⟩, ⟨rZ HO_5⟩, ⟨lB HB⟩⟩
             ·rw [if_neg c15] at H
              exact absurd H (by simp)
            ·rw [if_neg c14] at H
             exact absurd H (by simp)
           ·rw [if_neg c13] at H
            exact absurd H (by simp)
          ·rw [if_neg c12] at H
           exact absurd H (by simp)
         ·rw [if_neg c11] at H
          exact absurd H (by simp)
        ·rw [if_neg c9] at H
         have c9b0 : decide (x8_2 < (l1.length : Int)) = false := decide_eq_false c9; clear c9; obtain ⟨ji20, hji20⟩ : ∃ j_ : Int, (wrap64 (x6_1 + (l1.length : Int))) = j_ := ⟨_, rfl⟩
         replace H : (if 0 ≤ (ji20) then (if (ji20) < (x5_2.length : Int) then (hornbeamref04_Product.l0 k2 l0 l1 (x5_2.set ((ji20) : Int).toNat x7_2) (wrap64 (x6_1 + 1))) else (none)) else (none)) = some r := by first | (rw [hji20] at H; exact H) | (simp only [hji20] at H ⊢; exact H)
         have hji20w : (IntKind.i64.wrap (x6_1 + (l1.length : Int))) = ji20 := (i64_w _).trans hji20
         by_cases c21 : 0 ≤ (ji20)
         ·rw [if_pos c21] at H
          have c21b0 : decide (0 ≤ (ji20)) = true := decide_eq_true c21; clear c21
          by_cases c22 : (ji20) < (x5_2.length : Int)
          ·rw [if_pos c22] at H
           have c22b0 : decide ((ji20) < (x5_2.length : Int)) = true := decide_eq_true c22; clear c22; obtain ⟨y314, hy314⟩ : ∃ y_ : List Int, y_ = (x5_2.set ((ji20) : Int).toNat x7_2) := ⟨_, rfl⟩
           replace H : (hornbeamref04_Product.l0 k2 l0 l1 y314 (wrap64 (x6_1 + 1))) = some r := by first | (rw [hy314]; with_reducible exact H) | (have H2_ := (Option.bind_some _ _).symm.trans H; rw [hy314]; with_reducible exact H2_) | (have H2_ := (Option.bind_some _ _).symm.trans H; with_reducible exact H2_) | with_reducible exact H | (rw [hy314]; exact H) | exact H
           have Ny314 := aaM hy314; clear hy314; have H' := aaM H; clear H; have p23 : 0 ≤ ((ji20) : Int) := of_decide_eq_true (by first | (with_reducible assumption) | assumption); have q23 : ((ji20) : Int) < ((x5_2.length : Int) : Int) := of_decide_eq_true (by first | (with_reducible assumption) | assumption); obtain ⟨go23, co23, eo23, gb23, gl23, cl23, HG23⟩ := Kd.R_form HO_5.out (by omega); (first | cases eo23 | (injection eo23 with ea_ en_ ec_; (first | subst ea_ | (injection ea_ with ea_; subst ea_)); subst ec_; clear en_)); have GB23 := aaM gb23; have GG23 := aaM HG23; clear gb23 gl23 HG23; obtain ⟨hx23_0, hf23_0⟩ := Kd.R_celln 0 HO_5.out ((ji20) : Int) p23 q23; replace p23 := eq_true p23; replace q23 := eq_true q23; have HP24 := Kd.R_putg HO_5.out ((ji20) : Int) x7_2
           go_wp2_with (first | ((with_reducible refine gate_store (t := 28) (p := 61) rfl ?_); (try (rw [drewN_self wr]; generalize hq_ : World.drewN wr _ = wr; have n0_ := aaM (Kd.R_at hq_ HO_5.out); have n1_ := aaM (below_at hq_ HB.out); clear hq_ HO_5 HB; have HO_5 := n0_; have HB := n1_; clear n0_ n1_; (try (have HP24 := Kd.R_putg HO_5.out ((ji20) : Int) x7_2)); (try (obtain ⟨hy16_0, hg16_0⟩ := Kd.R_celln 0 HO_5.out ((ji10) : Int) (of_eq_true p16) (of_eq_true q16))); (try (obtain ⟨hy23_0, hg23_0⟩ := Kd.R_celln 0 HO_5.out ((ji20) : Int) (of_eq_true p23) (of_eq_true q23))))); refine store_event (t := 28) (p := 61) (v := ?vo_w25) (w1 := (wr.setCell ⟨go23, ((ji20) : Int).toNat, none⟩ (.int .u64 x7_2))) ?hg ?ho ?hn ?hr ?_; (case ho => rfl); (case hg => rfl); (case hn => rfl); (case hr => first | (go_simp; done) | (go_simp; rfl)); intro w25 hw; have hg : wr.grownBy w25 (some go23) := (by rw [hw]; exact HP24.2); have hp_ : Kd.R (Kd.int .u64) 28 w25 w.heap.size (fun _ => True) (.slice (some ⟨go23, 0, none⟩) x5_2.length co23) y314 := (by rw [hw, Ny314.out]; exact HP24.1); clear HP24; replace HO_5 := aaM (hp_); replace HB := aaM ((by rw [hw]; exact lS (HB.out) GB23.out : Below w.heap.size w w25)); clear hg hw hp_))
           repeat (go_quiet (first | ((with_reducible refine gate_store (t := 28) (p := 61) rfl ?_); (try (rw [drewN_self wr]; generalize hq_ : World.drewN wr _ = wr; have n0_ := aaM (Kd.R_at hq_ HO_5.out); have n1_ := aaM (below_at hq_ HB.out); clear hq_ HO_5 HB; have HO_5 := n0_; have HB := n1_; clear n0_ n1_; (try (have HP24 := Kd.R_putg HO_5.out ((ji20) : Int) x7_2)); (try (obtain ⟨hy16_0, hg16_0⟩ := Kd.R_celln 0 HO_5.out ((ji10) : Int) (of_eq_true p16) (of_eq_true q16))); (try (obtain ⟨hy23_0, hg23_0⟩ := Kd.R_celln 0 HO_5.out ((ji20) : Int) (of_eq_true p23) (of_eq_true q23))))); refine store_event (t := 28) (p := 61) (v := ?vo_w25) (w1 := (wr.setCell ⟨go23, ((ji20) : Int).toNat, none⟩ (.int .u64 x7_2))) ?hg ?ho ?hn ?hr ?_; (case ho => rfl); (case hg => rfl); (case hn => rfl); (case hr => first | (go_simp; done) | (go_simp; rfl)); intro w25 hw; have hg : wr.grownBy w25 (some go23) := (by rw [hw]; exact HP24.2); have hp_ : Kd.R (Kd.int .u64) 28 w25 w.heap.size (fun _ => True) (.slice (some ⟨go23, 0, none⟩) x5_2.length co23) y314 := (by rw [hw, Ny314.out]; exact HP24.1); clear HP24; have n0_ := aaM (hp_); have n1_ := aaM ((by rw [hw]; exact lS (HB.out) GB23.out : Below w.heap.size w w25)); clear HO_5; clear HB; have HO_5 := n0_; have HB := n1_; clear n0_ n1_; clear hg hw hp_)); try go_wp2_with (first | ((with_reducible refine gate_store (t := 28) (p := 61) rfl ?_); (try (rw [drewN_self wr]; generalize hq_ : World.drewN wr _ = wr; have n0_ := aaM (Kd.R_at hq_ HO_5.out); have n1_ := aaM (below_at hq_ HB.out); clear hq_ HO_5 HB; have HO_5 := n0_; have HB := n1_; clear n0_ n1_; (try (have HP24 := Kd.R_putg HO_5.out ((ji20) : Int) x7_2)); (try (obtain ⟨hy16_0, hg16_0⟩ := Kd.R_celln 0 HO_5.out ((ji10) : Int) (of_eq_true p16) (of_eq_true q16))); (try (obtain ⟨hy23_0, hg23_0⟩ := Kd.R_celln 0 HO_5.out ((ji20) : Int) (of_eq_true p23) (of_eq_true q23))))); refine store_event (t := 28) (p := 61) (v := ?vo_w25) (w1 := (wr.setCell ⟨go23, ((ji20) : Int).toNat, none⟩ (.int .u64 x7_2))) ?hg ?ho ?hn ?hr ?_; (case ho => rfl); (case hg => rfl); (case hn => rfl); (case hr => first | (go_simp; done) | (go_simp; rfl)); intro w25 hw; have hg : wr.grownBy w25 (some go23) := (by rw [hw]; exact HP24.2); have hp_ : Kd.R (Kd.int .u64) 28 w25 w.heap.size (fun _ => True) (.slice (some ⟨go23, 0, none⟩) x5_2.length co23) y314 := (by rw [hw, Ny314.out]; exact HP24.1); clear HP24; have n0_ := aaM (hp_); have n1_ := aaM ((by rw [hw]; exact lS (HB.out) GB23.out : Below w.heap.size w w25)); clear HO_5; clear HB; have HO_5 := n0_; have HB := n1_; clear n0_ n1_; clear hg hw hp_)))
           go_roundg k2
           case measure => have := HK1.out; have := HK2.out; omega
           case rel => exact ⟨(y314), (wrap64 (x6_1 + 1)), (eF), H', ⟨by have := HK1.out; have := HK2.out; omega⟩, ⟨rZ HO_5⟩, ⟨lB HB⟩⟩
          ·rw [if_neg c22] at H
           exact absurd H (by simp)
         ·rw [if_neg c21] at H
          exact absurd H (by simp)
     ·rw [if_neg c8] at H
      have c8b0 : decide (x6_1 < (l0.length : Int)) = false := decide_eq_false c8; clear c8; obtain rfl := Option.some.inj H; go_wp2
      repeat (go_quiet (fail); try go_wp2)
      go_ret
      exact ⟨_, by first | rfl | (simp [errW_none, errW_some] <;> rfl) | (simp only [← hji3]; first | rfl | (simp [errW_none, errW_some] <;> rfl)) | (simp [*, errW_none, errW_some] <;> rfl), rZ HO_5, lB HB⟩
  ·rw [if_neg c5] at H
   exact absurd H (by simp)
 ·rw [if_neg c4] at H
  exact absurd H (by simp)

/-! ### hornbeamref04_Digits: function 32 -/
def hornbeamref04_Digits.f (a0 : Int) : Option (List Int) := some (([Int.tmod a0 65536, Int.tmod (IntKind.u64.wrap (Int.tdiv a0 65536)) 65536, Int.tmod (IntKind.u64.wrap (Int.tdiv a0 4294967296)) 65536, IntKind.u64.wrap (Int.tdiv a0 281474976710656)] : List Int))
set_option maxHeartbeats 8000000 in
set_option maxRecDepth 100000 in
theorem hornbeamref04_Digits.calls (a0 : Int) (r : List Int) (w : World) (h : hornbeamref04_Digits.f a0 = some r) :
  Calls Try.prog 32 #[.int .u64 a0] w fun e w' => ∃ v0_ : Value, e = .returned (v0_) ∧ Kd.R (Kd.int .u64) 28 w' w.heap.size (fun _ => True) v0_ r ∧ Below w.heap.size w w' := by
 have HB := aaM (Below.refl w.heap.size w)
 have H : (some (([Int.tmod a0 65536, Int.tmod (IntKind.u64.wrap (Int.tdiv a0 65536)) 65536, Int.tmod (IntKind.u64.wrap (Int.tdiv a0 4294967296)) 65536, IntKind.u64.wrap (Int.tdiv a0 281474976710656)] : List Int))) = some r := h
 clear h
 obtain ⟨y315, hy315⟩ : ∃ y_ : List Int, y_ = (([Int.tmod a0 65536, Int.tmod (IntKind.u64.wrap (Int.tdiv a0 65536)) 65536, Int.tmod (IntKind.u64.wrap (Int.tdiv a0 4294967296)) 65536, IntKind.u64.wrap (Int.tdiv a0 281474976710656)] : List Int)) := ⟨_, rfl⟩
 replace H : (some y315) = some r := by first | (rw [hy315]; with_reducible exact H) | (have H2_ := (Option.bind_some _ _).symm.trans H; rw [hy315]; with_reducible exact H2_) | (have H2_ := (Option.bind_some _ _).symm.trans H; with_reducible exact H2_) | with_reducible exact H | (rw [hy315]; exact H) | exact H
 have Ny315 := aaM hy315
 clear hy315
 obtain rfl := Option.some.inj H
 go_enter Try.func32, Try.ntmps32
 go_wp2_with (first | ((with_reducible refine gate_dst (N := 13) rfl ?_); refine Kd.R_lit (Kd.int .u64) _ 28 ?hg (N := 13) ?hd (xs := ([Int.tmod a0 65536, Int.tmod (IntKind.u64.wrap (Int.tdiv a0 65536)) 65536, Int.tmod (IntKind.u64.wrap (Int.tdiv a0 4294967296)) 65536, IntKind.u64.wrap (Int.tdiv a0 281474976710656)] : List Int)) (inner := [.int .u64 (Int.tmod a0 65536), .int .u64 (Int.tmod (IntKind.u64.wrap (Int.tdiv a0 65536)) 65536), .int .u64 (Int.tmod (IntKind.u64.wrap (Int.tdiv a0 4294967296)) 65536), .int .u64 (IntKind.u64.wrap (Int.tdiv a0 281474976710656))]) (ok := fun _ => True) (okp := fun _ => True) ?hr ?hp (fun _ hk => hk) trivial (Below.refl _ _) (Nat.le_refl _) (by simp) ?_; (case hd => rfl); (case hg => rfl); (case hr => first | (go_simp; done) | (go_simp; rfl)); (case hp => exact (Reps.one (show Kd.M (Kd.int .u64) _ _ _ (Int.tmod a0 65536) [.int .u64 (Int.tmod a0 65536)] from rfl) (Reps.one (show Kd.M (Kd.int .u64) _ _ _ (Int.tmod (IntKind.u64.wrap (Int.tdiv a0 65536)) 65536) [.int .u64 (Int.tmod (IntKind.u64.wrap (Int.tdiv a0 65536)) 65536)] from rfl) (Reps.one (show Kd.M (Kd.int .u64) _ _ _ (Int.tmod (IntKind.u64.wrap (Int.tdiv a0 4294967296)) 65536) [.int .u64 (Int.tmod (IntKind.u64.wrap (Int.tdiv a0 4294967296)) 65536)] from rfl) (Reps.one (show Kd.M (Kd.int .u64) _ _ _ (IntKind.u64.wrap (Int.tdiv a0 281474976710656)) [.int .u64 (IntKind.u64.wrap (Int.tdiv a0 281474976710656))] from rfl) (Reps.none _ _)))))); intro v316 w2 ho3 hb hg_ hnew_; clear hg_ hnew_; (first | rw [← Ny315.out] at ho3 | (simp only [Int.reduceToNat] at ho3; rw [← Ny315.out] at ho3)); have HO317 := aaM (Kd.R_lower ho3 (lZ (lB HB))); replace HB := aaM (lP (lB HB) hb); clear hb ho3))
 go_ret
 exact ⟨_, eE, rZ HO317, lB HB⟩

/-! ### hornbeamref04_OfWide: function 31 -/
def hornbeamref04_OfWide.f (a0_0 : Int) (a0_1 : Int) : Option (List Int) := (hornbeamref04_Digits.f a0_1).bind fun t319 => ((hornbeamref04_Digits.f a0_0).bind fun t322 => (if t319.length + t322.length < 17592186044416 then (some (t319 ++ t322)) else (none)))
def hornbeamref04_OfWide.T1 : Bool × List (List Nat × List Nat) := (true, [([], []), ([0], [0]), ([1], [1]), ([], []), ([3], [3]), ([4, 2], [4]), ([2, 5, 5], [2, 5]), ([6, 6, 0, 1, 2, 3, 4, 5, 6], [6])])
def hornbeamref04_OfWide.B1 : List Nat := [0, 1, 3, 0, 8, 31, 63, 127]
theorem hornbeamref04_OfWide.tab1 : rtab .any (opsOf Try.f31 1) = hornbeamref04_OfWide.T1 := by kernel_rfl
theorem hornbeamref04_OfWide.bits1 : waitsOk hornbeamref04_OfWide.T1.2 hornbeamref04_OfWide.B1 = true := by kernel_rfl
set_option maxHeartbeats 8000000 in
set_option maxRecDepth 100000 in
theorem hornbeamref04_OfWide.calls (a0_0 : Int) (a0_1 : Int) (r : List Int) (w : World) (h : hornbeamref04_OfWide.f a0_0 a0_1 = some r) :
  Calls Try.prog 31 #[.agg #[.int .u64 a0_0, .int .u64 a0_1]] w fun e w' => ∃ v0_ : Value, e = .returned (v0_) ∧ Kd.R (Kd.int .u64) 28 w' w.heap.size (fun _ => True) v0_ r ∧ Below w.heap.size w w' := by
 have hu30 := Try.underlying30
 have HB := aaM (Below.refl w.heap.size w)
 have H : ((hornbeamref04_Digits.f a0_1).bind fun t319 => ((hornbeamref04_Digits.f a0_0).bind fun t322 => (if t319.length + t322.length < 17592186044416 then (some (t319 ++ t322)) else (none)))) = some r := h
 clear h
 replace H := ooB.mp H
 obtain ⟨t319, A20, H⟩ := H
 replace H : ((hornbeamref04_Digits.f a0_0).bind fun t322 => (if t319.length + t322.length < 17592186044416 then (some (t319 ++ t322)) else (none))) = some r := H
 have A2 := aaM A20
 clear A20
 replace H := ooB.mp H
 obtain ⟨t322, A30, H⟩ := H
 replace H : (if t319.length + t322.length < 17592186044416 then (some (t319 ++ t322)) else (none)) = some r := H
 have A3 := aaM A30
 clear A30
 by_cases c4 : t319.length + t322.length < 17592186044416
 ·rw [if_pos c4] at H
  have LMc4 := aaM c4; clear c4; obtain ⟨y325, hy325⟩ : ∃ y_ : List Int, y_ = (t319 ++ t322) := ⟨_, rfl⟩
  replace H : (some y325) = some r := by first | (rw [hy325]; with_reducible exact H) | (have H2_ := (Option.bind_some _ _).symm.trans H; rw [hy325]; with_reducible exact H2_) | (have H2_ := (Option.bind_some _ _).symm.trans H; with_reducible exact H2_) | with_reducible exact H | (rw [hy325]; exact H) | exact H
  have Ny325 := aaM hy325; clear hy325; obtain rfl := Option.some.inj H; go_enter Try.func31, Try.ntmps31; (try go_wp2_with (first | ((with_reducible refine gate_dst (N := 1) rfl ?_); refine bxE 1 #[.int .u64 a0_0, .int .u64 a0_1] 30 ?_; intro gb318 hg w5 hbox hb; have hP_ := lQ (lB HB) hb; replace HB := aaM hP_.1; have BK318 := aaM (hbox); have GW318 := aaM (gQ hg hP_.2); have GE318 := aaM (gQ hg hP_.2); clear hP_ hb hbox hg))); replace BK318 := aaM (bD BK318.out); replace HB := aaM (lD HB.out); refine start_ (n := 8) (S := fun w' => w'.cell? ⟨gb318, 0, none⟩ = some (.int .u64 a0_0) ∧ w'.cell? ⟨gb318, 1, none⟩ = some (.int .u64 a0_1)) (ds := []) _ (by kernel_rfl) rfl rfl hD (fun hHeld => ?_); refine with_tabW hornbeamref04_OfWide.tab1 hornbeamref04_OfWide.bits1 (fun HT_ HW_ => ?_); generalize w5.drew = w6 at BK318 HB hHeld ⊢; refine pU 0 3 (qB 8 1) HT_ ?_
  refine pU 3 6 (qB 8 9) HT_ ?_
  refine tU 1 4 (qB 8 11) HT_ HW_ hHeld ?_
  refine tU 4 7 (qB 8 27) HT_ HW_ hHeld ?_
  refine oU 2 (some 5) (qB 8 31) HT_ (fun K hK => ?_); refine gU Try.func32 #[.int .u64 a0_1] ?_; (with_reducible refine (hornbeamref04_Digits.calls a0_1 t319 _ A2.out).mono ?_); rintro e w7 ⟨v320, rfl, ho0, hb⟩; refine ⟨_, rfl, ?_⟩; have HO321 := aaM (Kd.R_lower ho0 (lZ (lB HB))); replace BK318 := bY hb BK318; replace HB := aaM (lP (lB HB) hb); (try clear hb); (try clear hb2); (try clear hk); (try clear hi); (try clear ho0); refine hK.out _ _ hD (fun hHeld => ?_); clear hK K; refine nU 5 ?_
  refine oU 5 (some 8) (qB 8 63) HT_ (fun K hK => ?_); refine gU Try.func32 #[.int .u64 a0_0] ?_; (with_reducible refine (hornbeamref04_Digits.calls a0_0 t322 _ A3.out).mono ?_); rintro e w8 ⟨v323, rfl, ho0, hb⟩; refine ⟨_, rfl, ?_⟩; have HO324 := aaM (Kd.R_lower (Kd.R_new' ho0 (Kd.R_lt (rZ HO321))) (lZ (lB HB))); replace HO321 := aaM (Kd.R_elder' (rZ HO321) (Kd.R_base ho0) hb); replace BK318 := bY hb BK318; replace HB := aaM (lP (lB HB) hb); (try clear hb); (try clear hb2); (try clear hk); (try clear hi); (try clear ho0); obtain ⟨Ao10, co10, eo10⟩ := Kd.R_slice HO324.out; (first | subst eo10 | (injection eo10 with f1_ f2_ f3_; have f4_ := f1_.symm; have f5_ := f3_.symm; clear f1_ f2_ f3_; subst f4_; subst f5_)); refine hK.out _ _ hD (fun hHeld => ?_); clear hK K; refine nU 8 ?_
  refine oU 6 (some 9) (qB 8 127) HT_ (fun K hK => ?_); refine Kd.R_append_rows_step (Kd.int .u64) (w0 := w) w.heap.size (by rfl) (.tmp 5) (.tmp 8) 74 28 (.int .u64 0) 8 rfl Try.underlying74 info28 rfl (by decide) (by omega) v320 t319 t322 _ _ _ (fun k_ => some k_ ≠ (.slice Ao10 t322.length co10 : Value).ownBlock) (fun _ => False) rfl rfl ?aO ?aR (fun _ _ h => h) (fun _ h => h.elim) ?aF ?aB ?aS ?aL ?_; (case aR => repeat (first | exact (Kd.R_reads' HO324.out).2.2 | (with_reducible refine ccA ?_ _) | (with_reducible refine ccN ?_ _) | (with_reducible refine ccD ?_))); (case aB => exact (lB HB)); (case aF => exact (fun k_ hk => Kd.fresh' (Kd.R_lt (rZ HO324)) k_ hk)); (case aO => exact (by (with_reducible repeat (first | apply rrA | apply rrN | apply rrD)); exact Kd.R_mono HO321.out (fun _ hk => hk.2))); (case aS => exact (lZ (lB HB))); (case aL => have := LMc4.out; omega); intro v326 w9 ho hb hg hat; rw [← Ny325.out] at ho; have n0_ := aaM (blk_grown (g := gb318) (bZ BK318) hg (Kd.R_ne HO321.out BK318.out (by decide))); have n1_ := aaM (Kd.R_after (ok := (fun _ => True)) (rZ HO324) hg hat); have n2_ := aaM (hb); have n3_ := aaM (ho); clear BK318 HO324 HB HO321; have BK318 := n0_; have HO324 := n1_; have HB := n2_; have HO327 := n3_; clear n0_ n1_ n2_ n3_ ho hb hg hat; refine hK.out _ _ hD (fun hHeld => ?_); clear hK K; refine nU 9 ?_
  refine pU 7 2 (qB 8 255) HT_ ?_
  refine done_ (done_of HT_.out (by kernel_rfl)) ?_; (try go_wp2); go_ret
  exact ⟨_, eE, by (with_reducible repeat (first | apply rrA | apply rrN | apply rrD)); exact Kd.R_mono HO327.out (fun _ hk => trivial), lB HB⟩
 ·rw [if_neg c4] at H
  exact absurd H (by simp)

/-! ### hornbeamref05_Cmp: function 16 -/
def hornbeamref05_Cmp.j0 : Nat → Bool → Int → Int → Int → Int → Int → Int → Option (Int)
 | 0, _, _, _, _, _, _, _ => none
 | k + 1, x12, x329000, x329001, x329002, x330000, x330001, x330002 => if x12 = true then (some 0) else (if x329002 = 0 then (some (-1)) else (if x330002 = 0 then (some 1) else ((hornbeamref04_OfWide.f x329000 x329001).bind fun t330 => ((hornbeamref04_Digits.f x330002).bind fun t333 => ((hornbeamref04_Product.f k t330 t333).bind fun t336 => ((hornbeamref04_OfWide.f x330000 x330001).bind fun t339 => ((hornbeamref04_Digits.f x329002).bind fun t342 => ((hornbeamref04_Product.f k t339 t342).bind fun t345 => ((hornbeamref04_Compare.f k t336 t345).bind fun t348 => (some t348))))))))))
def hornbeamref05_Cmp.f (k : Nat) (a0_0 : Int) (a0_1 : Int) (a0_2 : Int) (a1_0 : Int) (a1_1 : Int) (a1_2 : Int) : Option (Int) := if a0_2 = 0 then (hornbeamref05_Cmp.j0 k (a1_2 == 0) a0_0 a0_1 a0_2 a1_0 a1_1 a1_2) else (hornbeamref05_Cmp.j0 k false a0_0 a0_1 a0_2 a1_0 a1_1 a1_2)
theorem hornbeamref05_Cmp.mono_l : ∀ k, (∀ y0 y1 y2 y3 y4 y5 y6, LeO (hornbeamref05_Cmp.j0 k y0 y1 y2 y3 y4 y5 y6) (hornbeamref05_Cmp.j0 (k + 1) y0 y1 y2 y3 y4 y5 y6))
 | 0 => fun _ _ _ _ _ _ _ r h => by simp [hornbeamref05_Cmp.j0] at h
 | k + 1 => by
  have ih0 := hornbeamref05_Cmp.mono_l k
  ·intro y0 y1 y2 y3 y4 y5 y6
   unfold hornbeamref05_Cmp.j0
   repeat' first
   | (with_reducible exact ih0 _ _ _ _ _ _ _)
   | (with_reducible exact hornbeamref04_Compare.mono _ _ _)
   | (with_reducible exact hornbeamref04_Product.mono _ _ _)
   | (with_reducible exact LeO.refl _)
   | (with_reducible exact LeO.none _)
   | (with_reducible refine LeO.ite ?_ ?_)
   | (with_reducible refine LeO.bind ?_ (fun _ => ?_))
   | exact ih0 _ _ _ _ _ _ _
   | exact hornbeamref04_Compare.mono _ _ _
   | exact hornbeamref04_Product.mono _ _ _
   | exact LeO.none _
   | refine LeO.ite ?_ ?_
   | refine LeO.bind ?_ (fun _ => ?_)
theorem hornbeamref05_Cmp.mono : ∀ a0 a1 a2 a3 a4 a5 k, LeO (hornbeamref05_Cmp.f k a0 a1 a2 a3 a4 a5) (hornbeamref05_Cmp.f (k + 1) a0 a1 a2 a3 a4 a5) := by
 intro a0 a1 a2 a3 a4 a5 k
 have ih0 := hornbeamref05_Cmp.mono_l k
 unfold hornbeamref05_Cmp.f
 repeat' first
   | (with_reducible exact ih0 _ _ _ _ _ _ _)
   | (with_reducible exact hornbeamref04_Compare.mono _ _ _)
   | (with_reducible exact hornbeamref04_Product.mono _ _ _)
   | (with_reducible exact LeO.refl _)
   | (with_reducible exact LeO.none _)
   | (with_reducible refine LeO.ite ?_ ?_)
   | (with_reducible refine LeO.bind ?_ (fun _ => ?_))
   | exact ih0 _ _ _ _ _ _ _
   | exact hornbeamref04_Compare.mono _ _ _
   | exact hornbeamref04_Product.mono _ _ _
   | exact LeO.none _
   | refine LeO.ite ?_ ?_
   | refine LeO.bind ?_ (fun _ => ?_)
def hornbeamref05_Cmp.T7 : Bool × List (List Nat × List Nat) := (true, [([], []), ([0], [0]), ([1], [1]), ([], []), ([3], [3]), ([4, 2], [4]), ([2, 5, 5], [2, 5]), ([], []), ([7], [7]), ([8, 6], [8]), ([], []), ([10], [10]), ([11, 9], [11]), ([9, 12, 12], [9, 12]), ([6, 13, 13], [6, 13]), ([14, 14, 0, 1, 2, 3, 4, 5, 6, 7, 8, 9, 10, 11, 12, 13, 14], [14])])
def hornbeamref05_Cmp.B7 : List Nat := [0, 1, 3, 0, 8, 31, 63, 0, 128, 511, 0, 1024, 4095, 8191, 16383, 32767]
theorem hornbeamref05_Cmp.tab7 : rtab .any (opsOf Try.f16 7) = hornbeamref05_Cmp.T7 := by kernel_rfl
theorem hornbeamref05_Cmp.bits7 : waitsOk hornbeamref05_Cmp.T7.2 hornbeamref05_Cmp.B7 = true := by kernel_rfl
set_option maxHeartbeats 8000000 in
set_option maxRecDepth 100000 in
theorem hornbeamref05_Cmp.calls (k : Nat) (a0_0 : Int) (a0_1 : Int) (a0_2 : Int) (a1_0 : Int) (a1_1 : Int) (a1_2 : Int) (r : Int) (w : World) (h : hornbeamref05_Cmp.f k a0_0 a0_1 a0_2 a1_0 a1_1 a1_2 = some r) :
  Calls Try.prog 16 #[.agg #[.int .u64 a0_0, .int .u64 a0_1, .int .u64 a0_2], .agg #[.int .u64 a1_0, .int .u64 a1_1, .int .u64 a1_2]] w fun e w' => e = .returned (.int .i64 r) ∧ Below w.heap.size w w' := by
 have hu32 := Try.underlying32
 have hu30 := Try.underlying30
 have HB := aaM (Below.refl w.heap.size w)
 have H : (if a0_2 = 0 then (hornbeamref05_Cmp.j0 k (a1_2 == 0) a0_0 a0_1 a0_2 a1_0 a1_1 a1_2) else (hornbeamref05_Cmp.j0 k false a0_0 a0_1 a0_2 a1_0 a1_1 a1_2)) = some r := h
 clear h
 have HC3 := aaM H
 clear H
 go_enter Try.func16, Try.ntmps16
 go_upto_region 1 with (first | ((with_reducible refine gate_dst (N := 2) rfl ?_); refine bxE 2 #[.int .u64 a0_0, .int .u64 a0_1, .int .u64 a0_2] 32 ?_; intro gb328 hg w4 hbox hb; have hP_ := lQ (lB HB) hb; replace HB := aaM hP_.1; have BK328 := aaM (hbox); have GW328 := aaM (gQ hg hP_.2); have GE328 := aaM (gQ hg hP_.2); clear hP_ hb hbox hg) | ((with_reducible refine gate_dst (N := 3) rfl ?_); refine bxE 3 #[.int .u64 a1_0, .int .u64 a1_1, .int .u64 a1_2] 32 ?_; intro gb329 hg w5 hbox hb; have hP_ := lQ (lB HB) hb; replace HB := aaM hP_.1; have BK329 := aaM (hbox); have GW329 := aaM (gQ hg hP_.2); have GE329 := aaM (gQ hg hP_.2); obtain ⟨NB328_329, NB329_328⟩ := nS hg BK328; replace BK328 := bY hb BK328; clear hP_ hb hbox hg))
 (try simp only [Act.put, ssB, ssZ, ssS])
 go_cut [12] (fun v12 wc => ∃ (kq : Nat) (x12_2 : Bool), v12 = .bool x12_2 ∧ Aside0 (hornbeamref05_Cmp.j0 kq x12_2 a0_0 a0_1 a0_2 a1_0 a1_1 a1_2 = some r) ∧ Aside0 (kq ≤ k) ∧ Aside0 (wc.heap[gb328]? = some (.cells #[.int .u64 a0_0, .int .u64 a0_1, .int .u64 a0_2] 32 (0, 0))) ∧ Aside0 (wc.heap[gb329]? = some (.cells #[.int .u64 a1_0, .int .u64 a1_1, .int .u64 a1_2] 32 (0, 0))) ∧ Aside0 (Below w.heap.size w wc))
 case first =>
  have H := HC3.out; clear HC3
  by_cases c6 : a0_2 = 0
  ·rw [if_pos c6] at H
   have c6b0 : (a0_2 == 0) = true := beq_iff_eq.mpr c6; have c6b1 : (a0_2 != 0) = false := bne_eq_false_iff_eq.mpr c6; clear c6; (first | rw [c6b0] | (simp only [i64_w, i32_w]; rw [c6b0]) | skip); have H' := aaM H; clear H; have hnb7 := NB328_329.out; have hnc7 := NB329_328.out; obtain ⟨hcz8_0, hcz8_1, hcz8_2, hfz8_0, hfz8_1, hfz8_2⟩ := bE3 BK328.out; obtain ⟨hcz9_0, hcz9_1, hcz9_2, hfz9_0, hfz9_1, hfz9_2⟩ := bE3 BK329.out; go_wp2
   go_meet
   case rel => exact ⟨_, ((a1_2 == 0)), (eF), H', ⟨by first | omega | exact Nat.le_refl _⟩, ⟨bZ BK328⟩, ⟨bZ BK329⟩, ⟨lB HB⟩⟩
  ·rw [if_neg c6] at H
   have c6b0 : (a0_2 == 0) = false := beq_eq_false_iff_ne.mpr c6; have c6b1 : (a0_2 != 0) = true := bne_iff_ne.mpr c6; (first | rw [c6b0] | (simp only [i64_w, i32_w]; rw [c6b0]) | skip); have H' := aaM H; clear H; have hnb10 := NB328_329.out; have hnc10 := NB329_328.out; obtain ⟨hcz11_0, hcz11_1, hcz11_2, hfz11_0, hfz11_1, hfz11_2⟩ := bE3 BK328.out; go_wp2
   go_meet
   case rel => exact ⟨_, (false), (eF), H', ⟨by first | omega | exact Nat.le_refl _⟩, ⟨bZ BK328⟩, ⟨bZ BK329⟩, ⟨lB HB⟩⟩
 case rest =>
  clear HC3; (try clear c1); (try clear p2); (try clear c6); (try clear c6b0); (try clear c6b1); (try clear c7); (try clear c10); (try clear hcz11_0); (try clear hcz11_1); (try clear hcz11_2); (try clear hcz8_0); (try clear hcz8_1); (try clear hcz8_2); (try clear hcz9_0); (try clear hcz9_1); (try clear hcz9_2); (try clear hfz11_0); (try clear hfz11_1); (try clear hfz11_2); (try clear hfz8_0); (try clear hfz8_1); (try clear hfz8_2); (try clear hfz9_0); (try clear hfz9_1); (try clear hfz9_2); obtain ⟨kq, x12_2, rfl, HA, HJ2, BK328, BK329, HB⟩ := hcut
  cases kq with
  | zero => exact absurd HA.out (by simp [hornbeamref05_Cmp.j0])
  | succ kj2 =>
   have H := HA.out; clear HA; simp only [hornbeamref05_Cmp.j0] at H
   by_cases c12 : x12_2 = true
   ·subst c12
    have H1 : (some 0) = some r := by rw [if_pos rfl] at H; exact H
    clear H; have H := H1; clear H1; obtain rfl := Option.some.inj H; go_wp2
    all_goals (go_ret; exact ⟨by first | rfl | (simp [errW_none, errW_some] <;> rfl) | (simp [*, errW_none, errW_some] <;> rfl) | (simp_all; done), lB HB⟩)
   ·replace c12 := Bool.eq_false_iff.mpr c12
    subst c12
    have H1 : (if a0_2 = 0 then (some (-1)) else (if a1_2 = 0 then (some 1) else ((hornbeamref04_OfWide.f a0_0 a0_1).bind fun t330 => ((hornbeamref04_Digits.f a1_2).bind fun t333 => ((hornbeamref04_Product.f kj2 t330 t333).bind fun t336 => ((hornbeamref04_OfWide.f a1_0 a1_1).bind fun t339 => ((hornbeamref04_Digits.f a0_2).bind fun t342 => ((hornbeamref04_Product.f kj2 t339 t342).bind fun t345 => ((hornbeamref04_Compare.f kj2 t336 t345).bind fun t348 => (some t348)))))))))) = some r := by rw [if_neg (show ¬ (false = true) by decide)] at H; exact H
    clear H; have H := H1; clear H1
    by_cases c13 : a0_2 = 0
    ·rw [if_pos c13] at H
     have c13b0 : (a0_2 == 0) = true := beq_iff_eq.mpr c13; have c13b1 : (a0_2 != 0) = false := bne_eq_false_iff_eq.mpr c13; clear c13; obtain rfl := Option.some.inj H; have hnb14 := NB328_329.out; have hnc14 := NB329_328.out; obtain ⟨hcz15_0, hcz15_1, hcz15_2, hfz15_0, hfz15_1, hfz15_2⟩ := bE3 BK328.out; go_wp2
     all_goals (go_ret; exact ⟨by first | rfl | (simp [errW_none, errW_some] <;> rfl) | (simp [*, errW_none, errW_some] <;> rfl) | (simp_all; done), lB HB⟩)
    ·rw [if_neg c13] at H
     have c13b0 : (a0_2 == 0) = false := beq_eq_false_iff_ne.mpr c13; have c13b1 : (a0_2 != 0) = true := bne_iff_ne.mpr c13
     by_cases c16 : a1_2 = 0
     ·rw [if_pos c16] at H
      have c16b0 : (a1_2 == 0) = true := beq_iff_eq.mpr c16; have c16b1 : (a1_2 != 0) = false := bne_eq_false_iff_eq.mpr c16; clear c16; obtain rfl := Option.some.inj H; have hnb17 := NB328_329.out; have hnc17 := NB329_328.out; obtain ⟨hcz18_0, hcz18_1, hcz18_2, hfz18_0, hfz18_1, hfz18_2⟩ := bE3 BK328.out; obtain ⟨hcz19_0, hcz19_1, hcz19_2, hfz19_0, hfz19_1, hfz19_2⟩ := bE3 BK329.out; go_wp2
      all_goals (go_ret; exact ⟨by first | rfl | (simp [errW_none, errW_some] <;> rfl) | (simp [*, errW_none, errW_some] <;> rfl) | (simp_all; done), lB HB⟩)
     ·rw [if_neg c16] at H
      have c16b0 : (a1_2 == 0) = false := beq_eq_false_iff_ne.mpr c16; have c16b1 : (a1_2 != 0) = true := bne_iff_ne.mpr c16; replace H := ooB.mp H; obtain ⟨t330, A200, H⟩ := H; replace H : ((hornbeamref04_Digits.f a1_2).bind fun t333 => ((hornbeamref04_Product.f kj2 t330 t333).bind fun t336 => ((hornbeamref04_OfWide.f a1_0 a1_1).bind fun t339 => ((hornbeamref04_Digits.f a0_2).bind fun t342 => ((hornbeamref04_Product.f kj2 t339 t342).bind fun t345 => ((hornbeamref04_Compare.f kj2 t336 t345).bind fun t348 => (some t348))))))) = some r := H; have A20 := aaM A200; clear A200; replace H := ooB.mp H; obtain ⟨t333, A210, H⟩ := H; replace H : ((hornbeamref04_Product.f kj2 t330 t333).bind fun t336 => ((hornbeamref04_OfWide.f a1_0 a1_1).bind fun t339 => ((hornbeamref04_Digits.f a0_2).bind fun t342 => ((hornbeamref04_Product.f kj2 t339 t342).bind fun t345 => ((hornbeamref04_Compare.f kj2 t336 t345).bind fun t348 => (some t348)))))) = some r := H; have A21 := aaM A210; clear A210; replace H := ooB.mp H; obtain ⟨t336, A220, H⟩ := H; replace H : ((hornbeamref04_OfWide.f a1_0 a1_1).bind fun t339 => ((hornbeamref04_Digits.f a0_2).bind fun t342 => ((hornbeamref04_Product.f kj2 t339 t342).bind fun t345 => ((hornbeamref04_Compare.f kj2 t336 t345).bind fun t348 => (some t348))))) = some r := H; have A22 := aaM A220; clear A220; replace H := ooB.mp H; obtain ⟨t339, A230, H⟩ := H; replace H : ((hornbeamref04_Digits.f a0_2).bind fun t342 => ((hornbeamref04_Product.f kj2 t339 t342).bind fun t345 => ((hornbeamref04_Compare.f kj2 t336 t345).bind fun t348 => (some t348)))) = some r := H; have A23 := aaM A230; clear A230; replace H := ooB.mp H; obtain ⟨t342, A240, H⟩ := H; replace H : ((hornbeamref04_Product.f kj2 t339 t342).bind fun t345 => ((hornbeamref04_Compare.f kj2 t336 t345).bind fun t348 => (some t348))) = some r := H; have A24 := aaM A240; clear A240; replace H := ooB.mp H; obtain ⟨t345, A250, H⟩ := H; replace H : ((hornbeamref04_Compare.f kj2 t336 t345).bind fun t348 => (some t348)) = some r := H; have A25 := aaM A250; clear A250; replace H := ooB.mp H; obtain ⟨t348, A260, H⟩ := H; replace H : (some t348) = some r := H; have A26 := aaM A260; clear A260; obtain rfl := Option.some.inj H; have hnb27 := NB328_329.out; have hnc27 := NB329_328.out; obtain ⟨hcz28_0, hcz28_1, hcz28_2, hfz28_0, hfz28_1, hfz28_2⟩ := bE3 BK328.out; obtain ⟨hcz29_0, hcz29_1, hcz29_2, hfz29_0, hfz29_1, hfz29_2⟩ := bE3 BK329.out; (try go_wp2); replace BK328 := aaM (bD BK328.out); replace BK329 := aaM (bD BK329.out); replace HB := aaM (lD HB.out)
      refine start_ (n := 16) (S := fun w' => w'.cell? ⟨gb328, 0, none⟩ = some (.int .u64 a0_0) ∧ w'.cell? ⟨gb328, 1, none⟩ = some (.int .u64 a0_1) ∧ w'.cell? ⟨gb328, 2, none⟩ = some (.int .u64 a0_2) ∧ w'.cell? ⟨gb329, 0, none⟩ = some (.int .u64 a1_0) ∧ w'.cell? ⟨gb329, 1, none⟩ = some (.int .u64 a1_1) ∧ w'.cell? ⟨gb329, 2, none⟩ = some (.int .u64 a1_2)) (ds := []) _ (by kernel_rfl) rfl rfl hD (fun hHeld => ?_); refine with_tabW hornbeamref05_Cmp.tab7 hornbeamref05_Cmp.bits7 (fun HT_ HW_ => ?_); generalize wc.drew = w30 at BK328 BK329 HB hHeld ⊢; refine pU 0 19 (qB 16 1) HT_ ?_
      refine pU 3 22 (qB 16 9) HT_ ?_
      refine pU 7 26 (qB 16 137) HT_ ?_
      refine pU 10 29 (qB 16 1161) HT_ ?_
      refine tU 1 20 (qB 16 1163) HT_ HW_ hHeld ?_
      refine tU 4 23 (qB 16 1179) HT_ HW_ hHeld ?_
      refine tU 8 27 (qB 16 1435) HT_ HW_ hHeld ?_
      refine tU 11 30 (qB 16 3483) HT_ HW_ hHeld ?_
      refine oU 2 (some 21) (qB 16 3487) HT_ (fun K hK => ?_); refine gU Try.func31 #[.agg #[.int .u64 a0_0, .int .u64 a0_1]] ?_; (with_reducible refine (hornbeamref04_OfWide.calls a0_0 a0_1 t330 _ A20.out).mono ?_); rintro e w31 ⟨v331, rfl, ho0, hb⟩; refine ⟨_, rfl, ?_⟩; have HO332 := aaM (Kd.R_lower ho0 (lZ (lB HB))); replace BK328 := bY hb BK328; replace BK329 := bY hb BK329; replace HB := aaM (lP (lB HB) hb); (try clear hb); (try clear hb2); (try clear hk); (try clear hi); (try clear ho0); refine hK.out _ _ hD (fun hHeld => ?_); clear hK K; refine nU 21 ?_
      refine oU 5 (some 24) (qB 16 3519) HT_ (fun K hK => ?_); refine gU Try.func32 #[.int .u64 a1_2] ?_; (with_reducible refine (hornbeamref04_Digits.calls a1_2 t333 _ A21.out).mono ?_); rintro e w32 ⟨v334, rfl, ho0, hb⟩; refine ⟨_, rfl, ?_⟩; have HO335 := aaM (Kd.R_lower (Kd.R_new' ho0 (Kd.R_lt (rZ HO332))) (lZ (lB HB))); replace HO332 := aaM (Kd.R_elder' (rZ HO332) (Kd.R_base ho0) hb); replace BK328 := bY hb BK328; replace BK329 := bY hb BK329; replace HB := aaM (lP (lB HB) hb); (try clear hb); (try clear hb2); (try clear hk); (try clear hi); (try clear ho0); obtain ⟨Ao33, co33, eo33⟩ := Kd.R_slice HO332.out; (first | subst eo33 | (injection eo33 with f1_ f2_ f3_; have f4_ := f1_.symm; have f5_ := f3_.symm; clear f1_ f2_ f3_; subst f4_; subst f5_)); obtain ⟨Ao34, co34, eo34⟩ := Kd.R_slice HO335.out; (first | subst eo34 | (injection eo34 with f1_ f2_ f3_; have f4_ := f1_.symm; have f5_ := f3_.symm; clear f1_ f2_ f3_; subst f4_; subst f5_)); refine hK.out _ _ hD (fun hHeld => ?_); clear hK K; refine nU 24 ?_
      refine oU 6 (some 25) (qB 16 3583) HT_ (fun K hK => ?_); refine gU Try.func30 #[.slice Ao33 t330.length co33, .slice Ao34 t333.length co34] ?_; (with_reducible refine (hornbeamref04_Product.calls kj2 _ _ t330 _ _ t333 t336 _ ?side1 ?side2 ?side3 ?side4 A22.out).mono ?_); (case side1 => repeat (first | exact (Kd.R_reads' HO332.out).2.2 | (with_reducible refine ccA ?_ _) | (with_reducible refine ccN ?_ _) | (with_reducible refine ccD ?_))); (case side2 => exact (Kd.R_reads' HO332.out).2.1); (case side3 => repeat (first | exact (Kd.R_reads' HO335.out).2.2 | (with_reducible refine ccA ?_ _) | (with_reducible refine ccN ?_ _) | (with_reducible refine ccD ?_))); (case side4 => exact (Kd.R_reads' HO335.out).2.1); rintro e w35 ⟨v337, rfl, ho0, hb⟩; refine ⟨_, rfl, ?_⟩; have HO338 := aaM (Kd.R_lower (Kd.R_new' (Kd.R_new' ho0 (Kd.R_lt (rZ HO332))) (Kd.R_lt (rZ HO335))) (lZ (lB HB))); replace HO332 := aaM (Kd.R_elder' (rZ HO332) (Kd.R_base ho0) hb); replace HO335 := aaM (Kd.R_elder' (rZ HO335) (Kd.R_base ho0) hb); replace BK328 := bY hb BK328; replace BK329 := bY hb BK329; replace HB := aaM (lP (lB HB) hb); (try clear hb); (try clear hb2); (try clear hk); (try clear hi); (try clear ho0); refine hK.out _ _ hD (fun hHeld => ?_); clear hK K; refine nU 25 ?_
      refine oU 9 (some 28) (qB 16 4095) HT_ (fun K hK => ?_); refine gU Try.func31 #[.agg #[.int .u64 a1_0, .int .u64 a1_1]] ?_; (with_reducible refine (hornbeamref04_OfWide.calls a1_0 a1_1 t339 _ A23.out).mono ?_); rintro e w36 ⟨v340, rfl, ho0, hb⟩; refine ⟨_, rfl, ?_⟩; have HO341 := aaM (Kd.R_lower (Kd.R_new' (Kd.R_new' (Kd.R_new' ho0 (Kd.R_lt (rZ HO332))) (Kd.R_lt (rZ HO335))) (Kd.R_lt (rZ HO338))) (lZ (lB HB))); replace HO332 := aaM (Kd.R_elder' (rZ HO332) (Kd.R_base ho0) hb); replace HO335 := aaM (Kd.R_elder' (rZ HO335) (Kd.R_base ho0) hb); replace HO338 := aaM (Kd.R_elder' (rZ HO338) (Kd.R_base ho0) hb); replace BK328 := bY hb BK328; replace BK329 := bY hb BK329; replace HB := aaM (lP (lB HB) hb); (try clear hb); (try clear hb2); (try clear hk); (try clear hi); (try clear ho0); refine hK.out _ _ hD (fun hHeld => ?_); clear hK K; refine nU 28 ?_
      refine oU 12 (some 31) (qB 16 8191) HT_ (fun K hK => ?_); refine gU Try.func32 #[.int .u64 a0_2] ?_; (with_reducible refine (hornbeamref04_Digits.calls a0_2 t342 _ A24.out).mono ?_); rintro e w37 ⟨v343, rfl, ho0, hb⟩; refine ⟨_, rfl, ?_⟩; have HO344 := aaM (Kd.R_lower (Kd.R_new' (Kd.R_new' (Kd.R_new' (Kd.R_new' ho0 (Kd.R_lt (rZ HO332))) (Kd.R_lt (rZ HO335))) (Kd.R_lt (rZ HO338))) (Kd.R_lt (rZ HO341))) (lZ (lB HB))); replace HO332 := aaM (Kd.R_elder' (rZ HO332) (Kd.R_base ho0) hb); replace HO335 := aaM (Kd.R_elder' (rZ HO335) (Kd.R_base ho0) hb); replace HO338 := aaM (Kd.R_elder' (rZ HO338) (Kd.R_base ho0) hb); replace HO341 := aaM (Kd.R_elder' (rZ HO341) (Kd.R_base ho0) hb); replace BK328 := bY hb BK328; replace BK329 := bY hb BK329; replace HB := aaM (lP (lB HB) hb); (try clear hb); (try clear hb2); (try clear hk); (try clear hi); (try clear ho0); obtain ⟨Ao38, co38, eo38⟩ := Kd.R_slice HO341.out; (first | subst eo38 | (injection eo38 with f1_ f2_ f3_; have f4_ := f1_.symm; have f5_ := f3_.symm; clear f1_ f2_ f3_; subst f4_; subst f5_)); obtain ⟨Ao39, co39, eo39⟩ := Kd.R_slice HO344.out; (first | subst eo39 | (injection eo39 with f1_ f2_ f3_; have f4_ := f1_.symm; have f5_ := f3_.symm; clear f1_ f2_ f3_; subst f4_; subst f5_)); refine hK.out _ _ hD (fun hHeld => ?_); clear hK K; refine nU 31 ?_
      refine oU 13 (some 32) (qB 16 16383) HT_ (fun K hK => ?_); refine gU Try.func30 #[.slice Ao38 t339.length co38, .slice Ao39 t342.length co39] ?_; (with_reducible refine (hornbeamref04_Product.calls kj2 _ _ t339 _ _ t342 t345 _ ?side1 ?side2 ?side3 ?side4 A25.out).mono ?_); (case side1 => repeat (first | exact (Kd.R_reads' HO341.out).2.2 | (with_reducible refine ccA ?_ _) | (with_reducible refine ccN ?_ _) | (with_reducible refine ccD ?_))); (case side2 => exact (Kd.R_reads' HO341.out).2.1); (case side3 => repeat (first | exact (Kd.R_reads' HO344.out).2.2 | (with_reducible refine ccA ?_ _) | (with_reducible refine ccN ?_ _) | (with_reducible refine ccD ?_))); (case side4 => exact (Kd.R_reads' HO344.out).2.1); rintro e w40 ⟨v346, rfl, ho0, hb⟩; refine ⟨_, rfl, ?_⟩; have HO347 := aaM (Kd.R_lower (Kd.R_new' (Kd.R_new' (Kd.R_new' (Kd.R_new' (Kd.R_new' ho0 (Kd.R_lt (rZ HO332))) (Kd.R_lt (rZ HO335))) (Kd.R_lt (rZ HO338))) (Kd.R_lt (rZ HO341))) (Kd.R_lt (rZ HO344))) (lZ (lB HB))); replace HO332 := aaM (Kd.R_elder' (rZ HO332) (Kd.R_base ho0) hb); replace HO335 := aaM (Kd.R_elder' (rZ HO335) (Kd.R_base ho0) hb); replace HO338 := aaM (Kd.R_elder' (rZ HO338) (Kd.R_base ho0) hb); replace HO341 := aaM (Kd.R_elder' (rZ HO341) (Kd.R_base ho0) hb); replace HO344 := aaM (Kd.R_elder' (rZ HO344) (Kd.R_base ho0) hb); replace BK328 := bY hb BK328; replace BK329 := bY hb BK329; replace HB := aaM (lP (lB HB) hb); (try clear hb); (try clear hb2); (try clear hk); (try clear hi); (try clear ho0); obtain ⟨Ao41, co41, eo41⟩ := Kd.R_slice HO338.out; (first | subst eo41 | (injection eo41 with f1_ f2_ f3_; have f4_ := f1_.symm; have f5_ := f3_.symm; clear f1_ f2_ f3_; subst f4_; subst f5_))
      obtain ⟨Ao42, co42, eo42⟩ := Kd.R_slice HO347.out; (first | subst eo42 | (injection eo42 with f1_ f2_ f3_; have f4_ := f1_.symm; have f5_ := f3_.symm; clear f1_ f2_ f3_; subst f4_; subst f5_)); refine hK.out _ _ hD (fun hHeld => ?_); clear hK K; refine nU 32 ?_
      refine oU 14 (some 33) (qB 16 32767) HT_ (fun K hK => ?_); refine gU Try.func29 #[.slice Ao41 t336.length co41, .slice Ao42 t345.length co42] ?_; (with_reducible refine (hornbeamref04_Compare.calls kj2 _ _ t336 _ _ t345 t348 _ ?side1 ?side2 ?side3 ?side4 A26.out).mono ?_); (case side1 => repeat (first | exact (Kd.R_reads' HO338.out).2.2 | (with_reducible refine ccA ?_ _) | (with_reducible refine ccN ?_ _) | (with_reducible refine ccD ?_))); (case side2 => exact (Kd.R_reads' HO338.out).2.1); (case side3 => repeat (first | exact (Kd.R_reads' HO347.out).2.2 | (with_reducible refine ccA ?_ _) | (with_reducible refine ccN ?_ _) | (with_reducible refine ccD ?_))); (case side4 => exact (Kd.R_reads' HO347.out).2.1); rintro e w' ⟨rfl, ⟨nd, rfl⟩⟩; refine ⟨_, rfl, ?_⟩; refine hK.out _ _ hD (fun hHeld => ?_); clear hK K; refine nU 33 ?_
      refine pU 15 4 (qB 16 65535) HT_ ?_
      refine done_ (done_of HT_.out (by kernel_rfl)) ?_; (try go_wp2)
      all_goals (go_ret; exact ⟨by first | rfl | (simp [errW_none, errW_some] <;> rfl) | (simp [*, errW_none, errW_some] <;> rfl) | (simp_all; done), lB HB⟩)

end Go.Proofs.Ytancajnbjmcamaa.QSplitFirst
