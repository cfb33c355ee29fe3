-- Written by a program of this session (wip/tools/mkprint.py over the kit's print); Lean checks it.
import Derived.Test.YtpbgfmbkjojdeaaQGiniScoresx0
import Derived.Test.YtpbgfmbkjojdeaaQGiniScoresx1
import Derived.Test.YtpbgfmbkjojdeaaQGiniScoresx2
import Derived.Test.YtpbgfmbkjojdeaaQGiniScoresx3
import Derived.Test.YtpbgfmbkjojdeaaQGiniScoresx5
import Derived.Test.YtpbgfmbkjojdeaaQGiniScoresx6
namespace Go.Proofs.Ytpbgfmbkjojdeaa.QGiniScores
open Go.RowKit Go.Proofs.YtpbgfmbkjojdeaaW.PrintWords Go.Proofs.YtpbgfmbkjojdeaaW.PrintLast Go.Proofs.YtpbgfmbkjojdeaaW.PrintMore
attribute [local go_sem] max2_int min2_int max_two min_two max_three min_three max_four min_four   -- for this text's walks alone
set_option linter.unusedVariables false
set_option linter.unusedSimpArgs false

attribute [local go_sem high] eqA29
/-! ### hornbeamlaw14_GiniScores: function 3 -/
def hornbeamlaw14_GiniScores.j0 : Nat → List Int → List Int → Bool → Option (Bool)
  | 0, _, _, _ => none
  | k + 1, x0, x1, x12 => if x12 = true then ((hornbeamlaw14_fixed.f k).bind fun t298 => (some t298)) else ((hornbeamlaw14_fixed.f k).bind fun t299 => (if t299 = true then ((gini_May.f k x0).bind fun t300 => ((hornbeamref14_May.f k x0).bind fun t301 => (if (t300 == t301) = true then ((gini_Alone.f k x0).bind fun bt302 => ((hornbeamref14_Alone.f k x0).bind fun bt305 => (if ((bt302.1 == bt305.1 && (bt302.2.1 == bt305.2.1)) && (bt302.2.2 == bt305.2.2)) = true then ((gini_Score.f k x0 x1).bind fun bt308 => ((hornbeamref14_Score.f k x0 x1).bind fun bt311 => (some ((bt308.1 == bt311.1 && (bt308.2.1 == bt311.2.1)) && (bt308.2.2 == bt311.2.2))))) else (some false)))) else (some false)))) else (some false)))
def hornbeamlaw14_GiniScores.f (k : Nat) (l0 : List Int) (l1 : List Int) : Option (Bool) := if (l0.length : Int) > 300 then (hornbeamlaw14_GiniScores.j0 k l0 l1 true) else (hornbeamlaw14_GiniScores.j0 k l0 l1 (decide ((l1.length : Int) > 300)))
theorem hornbeamlaw14_GiniScores.mono_l : ∀ k, (∀ y0 y1 y2, LeO (hornbeamlaw14_GiniScores.j0 k y0 y1 y2) (hornbeamlaw14_GiniScores.j0 (k + 1) y0 y1 y2))
  | 0 => fun _ _ _ r h => by simp [hornbeamlaw14_GiniScores.j0] at h
  | k + 1 => by
    have ih0 := hornbeamlaw14_GiniScores.mono_l k
    · intro y0 y1 y2
      unfold hornbeamlaw14_GiniScores.j0
      repeat' first
      | (with_reducible exact ih0 _ _ _)
      | (with_reducible exact gini_Alone.mono _ _)
      | (with_reducible exact gini_May.mono _ _)
      | (with_reducible exact gini_Score.mono _ _ _)
      | (with_reducible exact hornbeamlaw14_fixed.mono _)
      | (with_reducible exact hornbeamref14_Alone.mono _ _)
      | (with_reducible exact hornbeamref14_May.mono _ _)
      | (with_reducible exact hornbeamref14_Score.mono _ _ _)
      | (with_reducible exact LeO.refl _)
      | (with_reducible exact LeO.none _)
      | (with_reducible refine LeO.ite ?_ ?_)
      | (with_reducible refine LeO.bind ?_ (fun _ => ?_))
      | exact ih0 _ _ _
      | exact gini_Alone.mono _ _
      | exact gini_May.mono _ _
      | exact gini_Score.mono _ _ _
      | exact hornbeamlaw14_fixed.mono _
      | exact hornbeamref14_Alone.mono _ _
      | exact hornbeamref14_May.mono _ _
      | exact hornbeamref14_Score.mono _ _ _
      | exact LeO.none _
      | refine LeO.ite ?_ ?_
      | refine LeO.bind ?_ (fun _ => ?_)
theorem hornbeamlaw14_GiniScores.mono : ∀ a0 a1 k, LeO (hornbeamlaw14_GiniScores.f k a0 a1) (hornbeamlaw14_GiniScores.f (k + 1) a0 a1) := by
  intro a0 a1 k
  have ih0 := hornbeamlaw14_GiniScores.mono_l k
  unfold hornbeamlaw14_GiniScores.f
  repeat' first
      | (with_reducible exact ih0 _ _ _)
      | (with_reducible exact gini_Alone.mono _ _)
      | (with_reducible exact gini_May.mono _ _)
      | (with_reducible exact gini_Score.mono _ _ _)
      | (with_reducible exact hornbeamlaw14_fixed.mono _)
      | (with_reducible exact hornbeamref14_Alone.mono _ _)
      | (with_reducible exact hornbeamref14_May.mono _ _)
      | (with_reducible exact hornbeamref14_Score.mono _ _ _)
      | (with_reducible exact LeO.refl _)
      | (with_reducible exact LeO.none _)
      | (with_reducible refine LeO.ite ?_ ?_)
      | (with_reducible refine LeO.bind ?_ (fun _ => ?_))
      | exact ih0 _ _ _
      | exact gini_Alone.mono _ _
      | exact gini_May.mono _ _
      | exact gini_Score.mono _ _ _
      | exact hornbeamlaw14_fixed.mono _
      | exact hornbeamref14_Alone.mono _ _
      | exact hornbeamref14_May.mono _ _
      | exact hornbeamref14_Score.mono _ _ _
      | exact LeO.none _
      | refine LeO.ite ?_ ?_
      | refine LeO.bind ?_ (fun _ => ?_)
set_option maxHeartbeats 8000000 in
set_option maxRecDepth 100000 in
theorem hornbeamlaw14_GiniScores.calls (k : Nat) (A0 : Option Addr) (c0 : Nat) (l0 : List Int) (A1 : Option Addr) (c1 : Nat) (l1 : List Int) (r : Bool) (w : World) (hr0 : Kd.C (Kd.int .i64) w A0 l0.length l0) (hc0 : l0.length ≤ c0) (hr1 : Kd.C (Kd.int .i64) w A1 l1.length l1) (hc1 : l1.length ≤ c1) (h : hornbeamlaw14_GiniScores.f k l0 l1 = some r) :
    Calls Try.prog 3 #[.slice A0 l0.length c0, .slice A1 l1.length c1] w fun e w' => e = .returned (.bool r) ∧ Below w.heap.size w w' := by
  have HR0 := Aside0.mk hr0
  have HC0 := Aside0.mk hc0
  clear hr0 hc0
  have HR1 := Aside0.mk hr1
  have HC1 := Aside0.mk hc1
  clear hr1 hc1
  have HB := Aside0.mk (Below.refl w.heap.size w)
  have H : (if (l0.length : Int) > 300 then (hornbeamlaw14_GiniScores.j0 k l0 l1 true) else (hornbeamlaw14_GiniScores.j0 k l0 l1 (decide ((l1.length : Int) > 300)))) = some r := h
  clear h
  have HC3 := Aside0.mk H
  clear H
  go_enter Try.func3, Try.ntmps3
  go_upto_region 1 with (fail)
  go_cut [12] (fun v12 wc => ∃ (kq : Nat) (x12_2 : Bool), v12 = .bool x12_2 ∧ Aside0 (hornbeamlaw14_GiniScores.j0 kq l0 l1 x12_2 = some r) ∧ Aside0 (kq ≤ k) ∧ Aside0 (Below w.heap.size w wc))
  case first =>
    have H := HC3.out
    clear HC3
    by_cases c4 : (l0.length : Int) > 300
    · rw [if_pos c4] at H
      have c4b0 : decide (300 < (l0.length : Int)) = true := decide_eq_true c4
      have c4b1 : decide (300 < l0.length) = true := decide_eq_true (by omega)
      clear c4
      (first | rw [c4b0] | (simp only [i64_w, i32_w]; rw [c4b0]) | skip)
      have H' := Aside0.mk H
      clear H
      go_wp2
      go_meet
      case rel => exact ⟨_, (true), (by first | rfl | (simp; done) | (simp [*]; done)), H', ⟨by first | omega | exact Nat.le_refl _⟩, ⟨by repeat (first | (with_reducible first | exact HB.out | apply below_alloc | apply pw_below_drewN | apply below_drew1) | exact HB.out)⟩⟩
    · rw [if_neg c4] at H
      have c4b0 : decide (300 < (l0.length : Int)) = false := decide_eq_false c4
      have c4b1 : decide (300 < l0.length) = false := decide_eq_false (by omega)
      clear c4
      (first | rw [c4b0] | (simp only [i64_w, i32_w]; rw [c4b0]) | skip)
      have H' := Aside0.mk H
      clear H
      go_wp2
      go_meet
      case rel => exact ⟨_, (decide ((l1.length : Int) > 300)), (by first | rfl | (simp; done) | (simp [*]; done)), H', ⟨by first | omega | exact Nat.le_refl _⟩, ⟨by repeat (first | (with_reducible first | exact HB.out | apply below_alloc | apply pw_below_drewN | apply below_drew1) | exact HB.out)⟩⟩
  case rest =>
    clear HC3
    try clear c1
    try clear p2
    try clear c3
    try clear c4
    try clear c4b0
    try clear c4b1
    obtain ⟨kq, x12_2, rfl, HA, HJ2, HB⟩ := hcut
    cases kq with
    | zero => exact absurd HA.out (by simp [hornbeamlaw14_GiniScores.j0])
    | succ kj2 =>
      have H := HA.out
      clear HA
      simp only [hornbeamlaw14_GiniScores.j0] at H
      by_cases c5 : x12_2 = true
      · subst c5
        have H1 : ((hornbeamlaw14_fixed.f kj2).bind fun t298 => (some t298)) = some r := by rw [if_pos rfl] at H; exact H
        clear H
        have H := H1
        clear H1
        replace H := Option.bind_eq_some_iff.mp H
        obtain ⟨t298, A60, H⟩ := H
        replace H : (some t298) = some r := H
        have A6 := Aside0.mk A60
        clear A60
        obtain rfl := Option.some.inj H
        go_wp2_with (first | ((with_reducible refine gate_callee (f := 8) rfl ?_); refine goesL_ (some 13) rfl rfl Try.func8 (by kernel_rfl) rfl #[] rfl (by (try simp only [List.map_toArray, List.map_cons, List.map_nil]); first | done | rfl | (simp only [List.length_drop, List.length_take]; rfl)) ?_; (with_reducible refine (hornbeamlaw14_fixed.calls kj2  t298 _ A6.out).mono ?_); rintro e w7 ⟨rfl, hb⟩; refine ⟨_, rfl, ?_⟩; have n0_ := Aside0.mk (below_step (by repeat (first | (with_reducible first | exact HB.out | apply below_alloc | apply pw_below_drewN | apply below_drew1) | exact HB.out)) hb); clear HB; have HB := n0_; clear n0_; (try clear hb); (try clear hb2); (try clear hk); (try clear hi)))
        all_goals (go_ret; exact ⟨by first | rfl | (simp [errW_none, errW_some] <;> rfl) | (simp [*, errW_none, errW_some] <;> rfl) | (simp_all; done), by repeat (first | (with_reducible first | exact HB.out | apply below_alloc | apply pw_below_drewN | apply below_drew1) | exact HB.out)⟩)
      · replace c5 := Bool.eq_false_iff.mpr c5
        subst c5
        have H1 : ((hornbeamlaw14_fixed.f kj2).bind fun t299 => (if t299 = true then ((gini_May.f kj2 l0).bind fun t300 => ((hornbeamref14_May.f kj2 l0).bind fun t301 => (if (t300 == t301) = true then ((gini_Alone.f kj2 l0).bind fun bt302 => ((hornbeamref14_Alone.f kj2 l0).bind fun bt305 => (if ((bt302.1 == bt305.1 && (bt302.2.1 == bt305.2.1)) && (bt302.2.2 == bt305.2.2)) = true then ((gini_Score.f kj2 l0 l1).bind fun bt308 => ((hornbeamref14_Score.f kj2 l0 l1).bind fun bt311 => (some ((bt308.1 == bt311.1 && (bt308.2.1 == bt311.2.1)) && (bt308.2.2 == bt311.2.2))))) else (some false)))) else (some false)))) else (some false))) = some r := by rw [if_neg (show ¬ (false = true) by decide)] at H; exact H
        clear H
        have H := H1
        clear H1
        replace H := Option.bind_eq_some_iff.mp H
        obtain ⟨t299, A80, H⟩ := H
        replace H : (if t299 = true then ((gini_May.f kj2 l0).bind fun t300 => ((hornbeamref14_May.f kj2 l0).bind fun t301 => (if (t300 == t301) = true then ((gini_Alone.f kj2 l0).bind fun bt302 => ((hornbeamref14_Alone.f kj2 l0).bind fun bt305 => (if ((bt302.1 == bt305.1 && (bt302.2.1 == bt305.2.1)) && (bt302.2.2 == bt305.2.2)) = true then ((gini_Score.f kj2 l0 l1).bind fun bt308 => ((hornbeamref14_Score.f kj2 l0 l1).bind fun bt311 => (some ((bt308.1 == bt311.1 && (bt308.2.1 == bt311.2.1)) && (bt308.2.2 == bt311.2.2))))) else (some false)))) else (some false)))) else (some false)) = some r := H
        have A8 := Aside0.mk A80
        clear A80
        by_cases c9 : t299 = true
        · subst c9
          have H1 : ((gini_May.f kj2 l0).bind fun t300 => ((hornbeamref14_May.f kj2 l0).bind fun t301 => (if (t300 == t301) = true then ((gini_Alone.f kj2 l0).bind fun bt302 => ((hornbeamref14_Alone.f kj2 l0).bind fun bt305 => (if ((bt302.1 == bt305.1 && (bt302.2.1 == bt305.2.1)) && (bt302.2.2 == bt305.2.2)) = true then ((gini_Score.f kj2 l0 l1).bind fun bt308 => ((hornbeamref14_Score.f kj2 l0 l1).bind fun bt311 => (some ((bt308.1 == bt311.1 && (bt308.2.1 == bt311.2.1)) && (bt308.2.2 == bt311.2.2))))) else (some false)))) else (some false)))) = some r := by rw [if_pos rfl] at H; exact H
          clear H
          have H := H1
          clear H1
          replace H := Option.bind_eq_some_iff.mp H
          obtain ⟨t300, A100, H⟩ := H
          replace H : ((hornbeamref14_May.f kj2 l0).bind fun t301 => (if (t300 == t301) = true then ((gini_Alone.f kj2 l0).bind fun bt302 => ((hornbeamref14_Alone.f kj2 l0).bind fun bt305 => (if ((bt302.1 == bt305.1 && (bt302.2.1 == bt305.2.1)) && (bt302.2.2 == bt305.2.2)) = true then ((gini_Score.f kj2 l0 l1).bind fun bt308 => ((hornbeamref14_Score.f kj2 l0 l1).bind fun bt311 => (some ((bt308.1 == bt311.1 && (bt308.2.1 == bt311.2.1)) && (bt308.2.2 == bt311.2.2))))) else (some false)))) else (some false))) = some r := H
          have A10 := Aside0.mk A100
          clear A100
          replace H := Option.bind_eq_some_iff.mp H
          obtain ⟨t301, A110, H⟩ := H
          replace H : (if (t300 == t301) = true then ((gini_Alone.f kj2 l0).bind fun bt302 => ((hornbeamref14_Alone.f kj2 l0).bind fun bt305 => (if ((bt302.1 == bt305.1 && (bt302.2.1 == bt305.2.1)) && (bt302.2.2 == bt305.2.2)) = true then ((gini_Score.f kj2 l0 l1).bind fun bt308 => ((hornbeamref14_Score.f kj2 l0 l1).bind fun bt311 => (some ((bt308.1 == bt311.1 && (bt308.2.1 == bt311.2.1)) && (bt308.2.2 == bt311.2.2))))) else (some false)))) else (some false)) = some r := H
          have A11 := Aside0.mk A110
          clear A110
          by_cases c12 : (t300 == t301) = true
          · rw [if_pos c12] at H
            have c12b0 : (t300 == t301) = true := c12
            (try (have c12b1 : decide (t300 = t301) = true := by simpa using c12))
            (try (have c12b2 : (t300 == t301) = true := by simpa using c12))
            clear c12
            replace H := Option.bind_eq_some_iff.mp H
            obtain ⟨⟨t302, t303, t304⟩, A130, H⟩ := H
            replace H : ((hornbeamref14_Alone.f kj2 l0).bind fun bt305 => (if ((t302 == bt305.1 && (t303 == bt305.2.1)) && (t304 == bt305.2.2)) = true then ((gini_Score.f kj2 l0 l1).bind fun bt308 => ((hornbeamref14_Score.f kj2 l0 l1).bind fun bt311 => (some ((bt308.1 == bt311.1 && (bt308.2.1 == bt311.2.1)) && (bt308.2.2 == bt311.2.2))))) else (some false))) = some r := H
            have A13 := Aside0.mk A130
            clear A130
            replace H := Option.bind_eq_some_iff.mp H
            obtain ⟨⟨t305, t306, t307⟩, A140, H⟩ := H
            replace H : (if ((t302 == t305 && (t303 == t306)) && (t304 == t307)) = true then ((gini_Score.f kj2 l0 l1).bind fun bt308 => ((hornbeamref14_Score.f kj2 l0 l1).bind fun bt311 => (some ((bt308.1 == bt311.1 && (bt308.2.1 == bt311.2.1)) && (bt308.2.2 == bt311.2.2))))) else (some false)) = some r := H
            have A14 := Aside0.mk A140
            clear A140
            by_cases c15 : ((t302 == t305 && (t303 == t306)) && (t304 == t307)) = true
            · rw [if_pos c15] at H
              have c15b0 : ((t302 == t305 && (t303 == t306)) && (t304 == t307)) = true := c15
              clear c15
              replace H := Option.bind_eq_some_iff.mp H
              obtain ⟨⟨t308, t309, t310⟩, A160, H⟩ := H
              replace H : ((hornbeamref14_Score.f kj2 l0 l1).bind fun bt311 => (some ((t308 == bt311.1 && (t309 == bt311.2.1)) && (t310 == bt311.2.2)))) = some r := H
              have A16 := Aside0.mk A160
              clear A160
              replace H := Option.bind_eq_some_iff.mp H
              obtain ⟨⟨t311, t312, t313⟩, A170, H⟩ := H
              replace H : (some ((t308 == t311 && (t309 == t312)) && (t310 == t313))) = some r := H
              have A17 := Aside0.mk A170
              clear A170
              obtain rfl := Option.some.inj H
              go_wp2_with (first | ((with_reducible refine gate_callee (f := 8) rfl ?_); refine goesL_ (some 14) rfl rfl Try.func8 (by kernel_rfl) rfl #[] rfl (by (try simp only [List.map_toArray, List.map_cons, List.map_nil]); first | done | rfl | (simp only [List.length_drop, List.length_take]; rfl)) ?_; (with_reducible refine (hornbeamlaw14_fixed.calls kj2  true _ A8.out).mono ?_); rintro e w18 ⟨rfl, hb⟩; refine ⟨_, rfl, ?_⟩; have n0_ := Aside0.mk (below_step (by repeat (first | (with_reducible first | exact HB.out | apply below_alloc | apply pw_below_drewN | apply below_drew1) | exact HB.out)) hb); clear HB; have HB := n0_; clear n0_; (try clear hb); (try clear hb2); (try clear hk); (try clear hi)) | (go_at_call 9; (with_reducible refine (gini_May.calls kj2 _ _ l0 t300 _ ?side1 ?side2 A10.out).mono ?_); (case side1 => repeat (first | exact (Kd.C_below HR0.out HB.out) | (with_reducible refine Kd.C_alloc ?_ _) | (with_reducible refine Kd.C_drewN ?_ _) | (with_reducible refine Kd.C_drew ?_))); (case side2 => exact HC0.out); rintro e w' ⟨rfl, ⟨nd, rfl⟩⟩) | (go_at_call 10; (with_reducible refine (hornbeamref14_May.calls kj2 _ _ l0 t301 _ ?side1 ?side2 A11.out).mono ?_); (case side1 => repeat (first | exact (Kd.C_below HR0.out (by repeat (first | (with_reducible first | exact HB.out | apply below_alloc | apply pw_below_drewN | apply below_drew1) | exact HB.out))) | (with_reducible refine Kd.C_alloc ?_ _) | (with_reducible refine Kd.C_drewN ?_ _) | (with_reducible refine Kd.C_drew ?_))); (case side2 => exact HC0.out); rintro e w' ⟨rfl, ⟨nd, rfl⟩⟩) | (go_at_call 11; (with_reducible refine (gini_Alone.calls kj2 _ _ l0 t302 t303 t304 _ ?side1 ?side2 A13.out).mono ?_); (case side1 => repeat (first | exact (Kd.C_below HR0.out (by repeat (first | (with_reducible first | exact HB.out | apply below_alloc | apply pw_below_drewN | apply below_drew1) | exact HB.out))) | (with_reducible refine Kd.C_alloc ?_ _) | (with_reducible refine Kd.C_drewN ?_ _) | (with_reducible refine Kd.C_drew ?_))); (case side2 => exact HC0.out); rintro e w19 ⟨rfl, hb⟩; have n0_ := Aside0.mk (below_step (by repeat (first | (with_reducible first | exact HB.out | apply below_alloc | apply pw_below_drewN | apply below_drew1) | exact HB.out)) hb); clear HB; have HB := n0_; clear n0_; (try clear hb); (try clear hb2); (try clear hk); (try clear hi)) | (go_at_call 12; (with_reducible refine (hornbeamref14_Alone.calls kj2 _ _ l0 t305 t306 t307 _ ?side1 ?side2 A14.out).mono ?_); (case side1 => repeat (first | exact (Kd.C_below HR0.out HB.out) | (with_reducible refine Kd.C_alloc ?_ _) | (with_reducible refine Kd.C_drewN ?_ _) | (with_reducible refine Kd.C_drew ?_))); (case side2 => exact HC0.out); rintro e w20 ⟨rfl, hb⟩; have n0_ := Aside0.mk (below_step (by repeat (first | (with_reducible first | exact HB.out | apply below_alloc | apply pw_below_drewN | apply below_drew1) | exact HB.out)) hb); clear HB; have HB := n0_; clear n0_; (try clear hb); (try clear hb2); (try clear hk); (try clear hi)) | (go_at_call 13; (with_reducible refine (gini_Score.calls kj2 _ _ l0 _ _ l1 t308 t309 t310 _ ?side1 ?side2 ?side3 ?side4 A16.out).mono ?_); (case side1 => repeat (first | exact (Kd.C_below HR0.out HB.out) | (with_reducible refine Kd.C_alloc ?_ _) | (with_reducible refine Kd.C_drewN ?_ _) | (with_reducible refine Kd.C_drew ?_))); (case side2 => exact HC0.out); (case side3 => repeat (first | exact (Kd.C_below HR1.out HB.out) | (with_reducible refine Kd.C_alloc ?_ _) | (with_reducible refine Kd.C_drewN ?_ _) | (with_reducible refine Kd.C_drew ?_))); (case side4 => exact HC1.out); rintro e w21 ⟨rfl, hb⟩; have n0_ := Aside0.mk (below_step (by repeat (first | (with_reducible first | exact HB.out | apply below_alloc | apply pw_below_drewN | apply below_drew1) | exact HB.out)) hb); clear HB; have HB := n0_; clear n0_; (try clear hb); (try clear hb2); (try clear hk); (try clear hi)) | (go_at_call 14; (with_reducible refine (hornbeamref14_Score.calls kj2 _ _ l0 _ _ l1 t311 t312 t313 _ ?side1 ?side2 ?side3 ?side4 A17.out).mono ?_); (case side1 => repeat (first | exact (Kd.C_below HR0.out HB.out) | (with_reducible refine Kd.C_alloc ?_ _) | (with_reducible refine Kd.C_drewN ?_ _) | (with_reducible refine Kd.C_drew ?_))); (case side2 => exact HC0.out); (case side3 => repeat (first | exact (Kd.C_below HR1.out HB.out) | (with_reducible refine Kd.C_alloc ?_ _) | (with_reducible refine Kd.C_drewN ?_ _) | (with_reducible refine Kd.C_drew ?_))); (case side4 => exact HC1.out); rintro e w22 ⟨rfl, hb⟩; have n0_ := Aside0.mk (below_step (by repeat (first | (with_reducible first | exact HB.out | apply below_alloc | apply pw_below_drewN | apply below_drew1) | exact HB.out)) hb); clear HB; have HB := n0_; clear n0_; (try clear hb); (try clear hb2); (try clear hk); (try clear hi)))
              all_goals (go_ret; exact ⟨by first | rfl | (simp [errW_none, errW_some] <;> rfl) | (simp [*, errW_none, errW_some] <;> rfl) | (simp_all; done), by repeat (first | (with_reducible first | exact HB.out | apply below_alloc | apply pw_below_drewN | apply below_drew1) | exact HB.out)⟩)
            · rw [if_neg c15] at H
              have c15b0 : ((t302 == t305 && (t303 == t306)) && (t304 == t307)) = false := by simpa using c15
              clear c15
              obtain rfl := Option.some.inj H
              go_wp2_with (first | ((with_reducible refine gate_callee (f := 8) rfl ?_); refine goesL_ (some 14) rfl rfl Try.func8 (by kernel_rfl) rfl #[] rfl (by (try simp only [List.map_toArray, List.map_cons, List.map_nil]); first | done | rfl | (simp only [List.length_drop, List.length_take]; rfl)) ?_; (with_reducible refine (hornbeamlaw14_fixed.calls kj2  true _ A8.out).mono ?_); rintro e w23 ⟨rfl, hb⟩; refine ⟨_, rfl, ?_⟩; have n0_ := Aside0.mk (below_step (by repeat (first | (with_reducible first | exact HB.out | apply below_alloc | apply pw_below_drewN | apply below_drew1) | exact HB.out)) hb); clear HB; have HB := n0_; clear n0_; (try clear hb); (try clear hb2); (try clear hk); (try clear hi)) | (go_at_call 9; (with_reducible refine (gini_May.calls kj2 _ _ l0 t300 _ ?side1 ?side2 A10.out).mono ?_); (case side1 => repeat (first | exact (Kd.C_below HR0.out HB.out) | (with_reducible refine Kd.C_alloc ?_ _) | (with_reducible refine Kd.C_drewN ?_ _) | (with_reducible refine Kd.C_drew ?_))); (case side2 => exact HC0.out); rintro e w' ⟨rfl, ⟨nd, rfl⟩⟩) | (go_at_call 10; (with_reducible refine (hornbeamref14_May.calls kj2 _ _ l0 t301 _ ?side1 ?side2 A11.out).mono ?_); (case side1 => repeat (first | exact (Kd.C_below HR0.out (by repeat (first | (with_reducible first | exact HB.out | apply below_alloc | apply pw_below_drewN | apply below_drew1) | exact HB.out))) | (with_reducible refine Kd.C_alloc ?_ _) | (with_reducible refine Kd.C_drewN ?_ _) | (with_reducible refine Kd.C_drew ?_))); (case side2 => exact HC0.out); rintro e w' ⟨rfl, ⟨nd, rfl⟩⟩) | (go_at_call 11; (with_reducible refine (gini_Alone.calls kj2 _ _ l0 t302 t303 t304 _ ?side1 ?side2 A13.out).mono ?_); (case side1 => repeat (first | exact (Kd.C_below HR0.out (by repeat (first | (with_reducible first | exact HB.out | apply below_alloc | apply pw_below_drewN | apply below_drew1) | exact HB.out))) | (with_reducible refine Kd.C_alloc ?_ _) | (with_reducible refine Kd.C_drewN ?_ _) | (with_reducible refine Kd.C_drew ?_))); (case side2 => exact HC0.out); rintro e w24 ⟨rfl, hb⟩; have n0_ := Aside0.mk (below_step (by repeat (first | (with_reducible first | exact HB.out | apply below_alloc | apply pw_below_drewN | apply below_drew1) | exact HB.out)) hb); clear HB; have HB := n0_; clear n0_; (try clear hb); (try clear hb2); (try clear hk); (try clear hi)) | (go_at_call 12; (with_reducible refine (hornbeamref14_Alone.calls kj2 _ _ l0 t305 t306 t307 _ ?side1 ?side2 A14.out).mono ?_); (case side1 => repeat (first | exact (Kd.C_below HR0.out HB.out) | (with_reducible refine Kd.C_alloc ?_ _) | (with_reducible refine Kd.C_drewN ?_ _) | (with_reducible refine Kd.C_drew ?_))); (case side2 => exact HC0.out); rintro e w25 ⟨rfl, hb⟩; have n0_ := Aside0.mk (below_step (by repeat (first | (with_reducible first | exact HB.out | apply below_alloc | apply pw_below_drewN | apply below_drew1) | exact HB.out)) hb); clear HB; have HB := n0_; clear n0_; (try clear hb); (try clear hb2); (try clear hk); (try clear hi)))
              all_goals (go_ret; exact ⟨by first | rfl | (simp [errW_none, errW_some] <;> rfl) | (simp [*, errW_none, errW_some] <;> rfl) | (simp_all; done), by repeat (first | (with_reducible first | exact HB.out | apply below_alloc | apply pw_below_drewN | apply below_drew1) | exact HB.out)⟩)
          · rw [if_neg c12] at H
            have c12b0 : (t300 == t301) = false := by simpa using c12
            (try (have c12b1 : decide (t300 = t301) = false := by simpa using c12))
            (try (have c12b2 : (t300 == t301) = false := by simpa using c12))
            (try (have c12b3 : ¬ (t300 = t301) := by simpa using c12))
            clear c12
            obtain rfl := Option.some.inj H
            go_wp2_with (first | ((with_reducible refine gate_callee (f := 8) rfl ?_); refine goesL_ (some 14) rfl rfl Try.func8 (by kernel_rfl) rfl #[] rfl (by (try simp only [List.map_toArray, List.map_cons, List.map_nil]); first | done | rfl | (simp only [List.length_drop, List.length_take]; rfl)) ?_; (with_reducible refine (hornbeamlaw14_fixed.calls kj2  true _ A8.out).mono ?_); rintro e w26 ⟨rfl, hb⟩; refine ⟨_, rfl, ?_⟩; have n0_ := Aside0.mk (below_step (by repeat (first | (with_reducible first | exact HB.out | apply below_alloc | apply pw_below_drewN | apply below_drew1) | exact HB.out)) hb); clear HB; have HB := n0_; clear n0_; (try clear hb); (try clear hb2); (try clear hk); (try clear hi)) | (go_at_call 9; (with_reducible refine (gini_May.calls kj2 _ _ l0 t300 _ ?side1 ?side2 A10.out).mono ?_); (case side1 => repeat (first | exact (Kd.C_below HR0.out HB.out) | (with_reducible refine Kd.C_alloc ?_ _) | (with_reducible refine Kd.C_drewN ?_ _) | (with_reducible refine Kd.C_drew ?_))); (case side2 => exact HC0.out); rintro e w' ⟨rfl, ⟨nd, rfl⟩⟩) | (go_at_call 10; (with_reducible refine (hornbeamref14_May.calls kj2 _ _ l0 t301 _ ?side1 ?side2 A11.out).mono ?_); (case side1 => repeat (first | exact (Kd.C_below HR0.out (by repeat (first | (with_reducible first | exact HB.out | apply below_alloc | apply pw_below_drewN | apply below_drew1) | exact HB.out))) | (with_reducible refine Kd.C_alloc ?_ _) | (with_reducible refine Kd.C_drewN ?_ _) | (with_reducible refine Kd.C_drew ?_))); (case side2 => exact HC0.out); rintro e w' ⟨rfl, ⟨nd, rfl⟩⟩))
            all_goals (go_ret; exact ⟨by first | rfl | (simp [errW_none, errW_some] <;> rfl) | (simp [*, errW_none, errW_some] <;> rfl) | (simp_all; done), by repeat (first | (with_reducible first | exact HB.out | apply below_alloc | apply pw_below_drewN | apply below_drew1) | exact HB.out)⟩)
        · replace c9 := Bool.eq_false_iff.mpr c9
          subst c9
          have H1 : (some false) = some r := by rw [if_neg (show ¬ (false = true) by decide)] at H; exact H
          clear H
          have H := H1
          clear H1
          obtain rfl := Option.some.inj H
          go_wp2_with (first | ((with_reducible refine gate_callee (f := 8) rfl ?_); refine goesL_ (some 14) rfl rfl Try.func8 (by kernel_rfl) rfl #[] rfl (by (try simp only [List.map_toArray, List.map_cons, List.map_nil]); first | done | rfl | (simp only [List.length_drop, List.length_take]; rfl)) ?_; (with_reducible refine (hornbeamlaw14_fixed.calls kj2  false _ A8.out).mono ?_); rintro e w27 ⟨rfl, hb⟩; refine ⟨_, rfl, ?_⟩; have n0_ := Aside0.mk (below_step (by repeat (first | (with_reducible first | exact HB.out | apply below_alloc | apply pw_below_drewN | apply below_drew1) | exact HB.out)) hb); clear HB; have HB := n0_; clear n0_; (try clear hb); (try clear hb2); (try clear hk); (try clear hi)))
          all_goals (go_ret; exact ⟨by first | rfl | (simp [errW_none, errW_some] <;> rfl) | (simp [*, errW_none, errW_some] <;> rfl) | (simp_all; done), by repeat (first | (with_reducible first | exact HB.out | apply below_alloc | apply pw_below_drewN | apply below_drew1) | exact HB.out)⟩)

/-- THE ONE PURE STATEMENT of hornbeamlaw14_GiniScores: yours. -/
def hornbeamlaw14_GiniScores.Pure : Prop := ∀ (l0 : List Int) (l1 : List Int), l0.length ≤ maxLen → l0.length * 8 ≤ 140737488351232 → (∀ x ∈ l0, (Lit.int .i64 x).wf = true) → l1.length ≤ maxLen → l1.length * 8 ≤ 140737488351232 → (∀ x ∈ l1, (Lit.int .i64 x).wf = true) → ∃ k, hornbeamlaw14_GiniScores.f k l0 l1 = some true
theorem hornbeamlaw14_GiniScores.walk (P : hornbeamlaw14_GiniScores.Pure) (a0 : Option Addr) (len0 cap0 : Nat) (z0 : List Int) (a1 : Option Addr) (len1 cap1 : Nat) (z1 : List Int) (w : World) (w0 : (a0 = none ∧ len0 = 0 ∧ cap0 = 0 ∧ z0 = []) ∨ ∃ x, a0 = some x ∧ len0 ≤ cap0 ∧ cap0 ≤ maxLen ∧ z0.length = cap0 ∧ (∀ i, i < z0.length → w.cell? (x.add i) = some (.int .i64 (z0.getD i 0))) ∧ ∀ n ∈ z0, (Lit.int .i64 n).wf = true) (y0 : len0 * 8 ≤ 140737488351232) (w1 : (a1 = none ∧ len1 = 0 ∧ cap1 = 0 ∧ z1 = []) ∨ ∃ x, a1 = some x ∧ len1 ≤ cap1 ∧ cap1 ≤ maxLen ∧ z1.length = cap1 ∧ (∀ i, i < z1.length → w.cell? (x.add i) = some (.int .i64 (z1.getD i 0))) ∧ ∀ n ∈ z1, (Lit.int .i64 n).wf = true) (y1 : len1 * 8 ≤ 140737488351232) :
    Calls Try.prog 3 #[.slice a0 len0 cap0, .slice a1 len1 cap1] w fun e w' => e = .returned (.bool true) ∧ Below w.heap.size w w' := by
  obtain ⟨l0, rfl, hr0, hm0, hw0, hc0⟩ := ReadsInt.ofRowC w0
  obtain ⟨l1, rfl, hr1, hm1, hw1, hc1⟩ := ReadsInt.ofRowC w1
  obtain ⟨k, h⟩ := P l0 l1 hm0 y0 hw0 hm1 y1 hw1
  refine (hornbeamlaw14_GiniScores.calls k _ _ l0 _ _ l1 true w (Kd.C_of_reads (d := (0 : Int)) (h1 := fun _ => rfl) hr0) hc0 (Kd.C_of_reads (d := (0 : Int)) (h1 := fun _ => rfl) hr1) hc1 h).mono ?_
  rintro e w' ⟨rfl, hd⟩
  exact ⟨rfl, hd⟩

end Go.Proofs.Ytpbgfmbkjojdeaa.QGiniScores
