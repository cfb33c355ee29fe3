-- Written by a program of this session (wip/tools/mkprint.py over the kit's print); Lean checks it.
import Derived.Test.YtoonddgldmfleaaQSchedOncex0
import Derived.Test.YtoonddgldmfleaaQSchedOncex4
namespace Go.Proofs.Ytoonddgldmfleaa.QSchedOnce
open Go.RowKit Go.Proofs.YtoonddgldmfleaaW.PrintWords Go.Proofs.YtoonddgldmfleaaW.PrintLast Go.Proofs.YtoonddgldmfleaaW.PrintMore
attribute [local go_sem] max2_int min2_int max_two min_two max_three min_three max_four min_four   -- for this text's walks alone
set_option linter.unusedVariables false
set_option linter.unusedSimpArgs false

/-! ### hornbeamlaw21_SchedOnce: function 6 -/
mutual
def hornbeamlaw21_SchedOnce.l0 : Nat → Int → Int → List (S52) → List Int → Int → Int → Option (Bool)
  | 0, _, _, _, _, _, _ => none
  | k + 1, x7, x8, x9, x12, x45, x46 => if x46 < x45 then (if 0 ≤ x46 then (if x46 < (x12.length : Int) then (hornbeamlaw21_SchedOnce.l0 k x7 x8 x9 (x12.set (x46 : Int).toNat (-1)) x45 (wrap64 (x46 + 1))) else (none)) else (none)) else (if 0 ≤ x7 then (if (x7 : Int).toNat ≤ 35184372088832 then (hornbeamlaw21_SchedOnce.l1 k x7 x8 x9 x12 0 (List.replicate (x7 : Int).toNat 0) 0 x9 (x9.length : Int) 0) else (none)) else (none))
def hornbeamlaw21_SchedOnce.l1 : Nat → Int → Int → List (S52) → List Int → Int → List Int → Int → List (S52) → Int → Int → Option (Bool)
  | 0, _, _, _, _, _, _, _, _, _, _ => none
  | k + 1, x7, x8, x9, x12, x14, x15, x16, x55, x56, x57 => if x57 < x56 then (if 0 ≤ x57 then (if x57 < (x55.length : Int) then (if ((rd_T52 x55 x57).f0) < 0 then (hornbeamlaw21_SchedOnce.j2 k x7 x8 x9 x12 x14 x15 x16 x57 x55 x56 x57 true ((rd_T52 x55 x57).f0) ((rd_T52 x55 x57).f1) ((rd_T52 x55 x57).f2)) else (hornbeamlaw21_SchedOnce.j2 k x7 x8 x9 x12 x14 x15 x16 x57 x55 x56 x57 (decide (((rd_T52 x55 x57).f0) > x8)) ((rd_T52 x55 x57).f0) ((rd_T52 x55 x57).f1) ((rd_T52 x55 x57).f2))) else (none)) else (none)) else (hornbeamlaw21_SchedOnce.l2 k x7 x8 x14 x16 x15 (x15.length : Int) 0)
def hornbeamlaw21_SchedOnce.j2 : Nat → Int → Int → List (S52) → List Int → Int → List Int → Int → Int → List (S52) → Int → Int → Bool → Int → Int → Int → Option (Bool)
  | 0, _, _, _, _, _, _, _, _, _, _, _, _, _, _, _ => none
  | k + 1, x7, x8, x9, x12, x14, x15, x16, x17, x55, x56, x57, x70, x178000, x178001, x178002 => if x70 = true then (some false) else (if x178001 = 1 then (if x178000 = 0 then (some false) else (if 0 ≤ x178000 then (if x178000 < (x12.length : Int) then (if (rd x12 x178000) = (-1) then (if x178002 = x14 then (if x178002 ≥ x7 then (some false) else (hornbeamlaw21_SchedOnce.l1 k x7 x8 x9 (x12.set (x178000 : Int).toNat x178002) (wrap64 (x14 + 1)) x15 x16 x55 x56 (wrap64 (x57 + 1)))) else (some false)) else (some false)) else (none)) else (none))) else (if x178001 = 2 then (if x178000 = 0 then (some false) else (if x178002 < 0 then (some false) else (if x178002 ≥ x7 then (some false) else (if 0 ≤ x178000 then (if x178000 < (x12.length : Int) then (if (rd x12 x178000) = x178002 then (if 0 ≤ x178002 then (if x178002 < (x15.length : Int) then (hornbeamlaw21_SchedOnce.l1 k x7 x8 x9 (x12.set (x178000 : Int).toNat (-1)) x14 (x15.set (x178002 : Int).toNat (wrap64 ((rd x15 x178002) + 1))) x16 x55 x56 (wrap64 (x57 + 1))) else (none)) else (none)) else (some false)) else (none)) else (none))))) else (if x178001 = 3 then (if x178000 = 0 then (some false) else (if 0 ≤ x178000 then (if x178000 < (x12.length : Int) then (if (rd x12 x178000) = (-1) then (if x14 = x7 then (hornbeamlaw21_SchedOnce.l1 k x7 x8 x9 (x12.set (x178000 : Int).toNat (-2)) x14 x15 (wrap64 (x16 + 1)) x55 x56 (wrap64 (x57 + 1))) else (some false)) else (some false)) else (none)) else (none))) else (if x178001 = 4 then (if x178000 = 0 then (if x17 = (wrap64 ((x9.length : Int) - 1)) then (if x16 = x8 then (hornbeamlaw21_SchedOnce.l1 k x7 x8 x9 x12 x14 x15 x16 x55 x56 (wrap64 (x57 + 1))) else (some false)) else (some false)) else (some false)) else (some false)))))
def hornbeamlaw21_SchedOnce.l2 : Nat → Int → Int → Int → Int → List Int → Int → Int → Option (Bool)
  | 0, _, _, _, _, _, _, _ => none
  | k + 1, x7, x8, x14, x16, x185, x186, x187 => if x187 < x186 then (if 0 ≤ x187 then (if x187 < (x185.length : Int) then (if (rd x185 x187) = 1 then (hornbeamlaw21_SchedOnce.l2 k x7 x8 x14 x16 x185 x186 (wrap64 (x187 + 1))) else (some false)) else (none)) else (none)) else ((hornbeamlaw21_fixed.f k).bind fun t187 => (if t187 = true then (if x16 = x8 then (some (x14 == x7)) else (some false)) else (some false)))
end
def hornbeamlaw21_SchedOnce.f (k : Nat) (a0 : Int) (a1 : Int) (l2 : List Int) : Option (Bool) := if (l2.length : Int) > 2000 then ((hornbeamlaw21_fixed.f k).bind fun t153 => (some t153)) else ((sched_Play.f k (wrap64 (a0)) (wrap64 (1 + (wrap64 (Int.tmod a1 64)))) l2).bind fun bt154 => (if bt154.2.2.2.2.2.2.2 = 0 then (if 0 ≤ (wrap64 ((wrap64 (1 + (wrap64 (Int.tmod a1 64)))) + 1)) then (if (wrap64 ((wrap64 (1 + (wrap64 (Int.tmod a1 64)))) + 1) : Int).toNat ≤ 35184372088832 then ((some (List.replicate (wrap64 ((wrap64 (1 + (wrap64 (Int.tmod a1 64)))) + 1) : Int).toNat 0 : List Int)).bind fun y169 => (hornbeamlaw21_SchedOnce.l0 k (wrap64 (a0)) (wrap64 (1 + (wrap64 (Int.tmod a1 64)))) bt154.1 y169 (y169.length : Int) 0)) else (none)) else (none)) else (some false)))
theorem hornbeamlaw21_SchedOnce.mono_l : ∀ k, (∀ y0 y1 y2 y3 y4 y5, LeO (hornbeamlaw21_SchedOnce.l0 k y0 y1 y2 y3 y4 y5) (hornbeamlaw21_SchedOnce.l0 (k + 1) y0 y1 y2 y3 y4 y5)) ∧ (∀ y0 y1 y2 y3 y4 y5 y6 y7 y8 y9, LeO (hornbeamlaw21_SchedOnce.l1 k y0 y1 y2 y3 y4 y5 y6 y7 y8 y9) (hornbeamlaw21_SchedOnce.l1 (k + 1) y0 y1 y2 y3 y4 y5 y6 y7 y8 y9)) ∧ (∀ y0 y1 y2 y3 y4 y5 y6 y7 y8 y9 y10 y11 y12 y13 y14, LeO (hornbeamlaw21_SchedOnce.j2 k y0 y1 y2 y3 y4 y5 y6 y7 y8 y9 y10 y11 y12 y13 y14) (hornbeamlaw21_SchedOnce.j2 (k + 1) y0 y1 y2 y3 y4 y5 y6 y7 y8 y9 y10 y11 y12 y13 y14)) ∧ (∀ y0 y1 y2 y3 y4 y5 y6, LeO (hornbeamlaw21_SchedOnce.l2 k y0 y1 y2 y3 y4 y5 y6) (hornbeamlaw21_SchedOnce.l2 (k + 1) y0 y1 y2 y3 y4 y5 y6))
  | 0 => ⟨fun _ _ _ _ _ _ r h => by simp [hornbeamlaw21_SchedOnce.l0] at h, fun _ _ _ _ _ _ _ _ _ _ r h => by simp [hornbeamlaw21_SchedOnce.l1] at h, fun _ _ _ _ _ _ _ _ _ _ _ _ _ _ _ r h => by simp [hornbeamlaw21_SchedOnce.j2] at h, fun _ _ _ _ _ _ _ r h => by simp [hornbeamlaw21_SchedOnce.l2] at h⟩
  | k + 1 => by
    obtain ⟨ih0, ih1, ih2, ih3⟩ := hornbeamlaw21_SchedOnce.mono_l k
    refine ⟨?_, ?_, ?_, ?_⟩
    · intro y0 y1 y2 y3 y4 y5
      unfold hornbeamlaw21_SchedOnce.l0
      repeat' first
      | (with_reducible exact ih0 _ _ _ _ _ _)
      | (with_reducible exact ih1 _ _ _ _ _ _ _ _ _ _)
      | (with_reducible exact ih2 _ _ _ _ _ _ _ _ _ _ _ _ _ _ _)
      | (with_reducible exact ih3 _ _ _ _ _ _ _)
      | (with_reducible exact hornbeamlaw21_fixed.mono _)
      | (with_reducible exact sched_Play.mono _ _ _ _)
      | (with_reducible exact LeO.refl _)
      | (with_reducible exact LeO.none _)
      | (with_reducible refine LeO.ite ?_ ?_)
      | (with_reducible refine LeO.bind ?_ (fun _ => ?_))
      | exact ih0 _ _ _ _ _ _
      | exact ih1 _ _ _ _ _ _ _ _ _ _
      | exact ih2 _ _ _ _ _ _ _ _ _ _ _ _ _ _ _
      | exact ih3 _ _ _ _ _ _ _
      | exact hornbeamlaw21_fixed.mono _
      | exact sched_Play.mono _ _ _ _
      | exact LeO.none _
      | refine LeO.ite ?_ ?_
      | refine LeO.bind ?_ (fun _ => ?_)
    · intro y0 y1 y2 y3 y4 y5 y6 y7 y8 y9
      unfold hornbeamlaw21_SchedOnce.l1
      repeat' first
      | (with_reducible exact ih0 _ _ _ _ _ _)
      | (with_reducible exact ih1 _ _ _ _ _ _ _ _ _ _)
      | (with_reducible exact ih2 _ _ _ _ _ _ _ _ _ _ _ _ _ _ _)
      | (with_reducible exact ih3 _ _ _ _ _ _ _)
      | (with_reducible exact hornbeamlaw21_fixed.mono _)
      | (with_reducible exact sched_Play.mono _ _ _ _)
      | (with_reducible exact LeO.refl _)
      | (with_reducible exact LeO.none _)
      | (with_reducible refine LeO.ite ?_ ?_)
      | (with_reducible refine LeO.bind ?_ (fun _ => ?_))
      | exact ih0 _ _ _ _ _ _
      | exact ih1 _ _ _ _ _ _ _ _ _ _
      | exact ih2 _ _ _ _ _ _ _ _ _ _ _ _ _ _ _
      | exact ih3 _ _ _ _ _ _ _
      | exact hornbeamlaw21_fixed.mono _
      | exact sched_Play.mono _ _ _ _
      | exact LeO.none _
      | refine LeO.ite ?_ ?_
      | refine LeO.bind ?_ (fun _ => ?_)
    · intro y0 y1 y2 y3 y4 y5 y6 y7 y8 y9 y10 y11 y12 y13 y14
      unfold hornbeamlaw21_SchedOnce.j2
      repeat' first
      | (with_reducible exact ih0 _ _ _ _ _ _)
      | (with_reducible exact ih1 _ _ _ _ _ _ _ _ _ _)
      | (with_reducible exact ih2 _ _ _ _ _ _ _ _ _ _ _ _ _ _ _)
      | (with_reducible exact ih3 _ _ _ _ _ _ _)
      | (with_reducible exact hornbeamlaw21_fixed.mono _)
      | (with_reducible exact sched_Play.mono _ _ _ _)
      | (with_reducible exact LeO.refl _)
      | (with_reducible exact LeO.none _)
      | (with_reducible refine LeO.ite ?_ ?_)
      | (with_reducible refine LeO.bind ?_ (fun _ => ?_))
      | exact ih0 _ _ _ _ _ _
      | exact ih1 _ _ _ _ _ _ _ _ _ _
      | exact ih2 _ _ _ _ _ _ _ _ _ _ _ _ _ _ _
      | exact ih3 _ _ _ _ _ _ _
      | exact hornbeamlaw21_fixed.mono _
      | exact sched_Play.mono _ _ _ _
      | exact LeO.none _
      | refine LeO.ite ?_ ?_
      | refine LeO.bind ?_ (fun _ => ?_)
    · intro y0 y1 y2 y3 y4 y5 y6
      unfold hornbeamlaw21_SchedOnce.l2
      repeat' first
      | (with_reducible exact ih0 _ _ _ _ _ _)
      | (with_reducible exact ih1 _ _ _ _ _ _ _ _ _ _)
      | (with_reducible exact ih2 _ _ _ _ _ _ _ _ _ _ _ _ _ _ _)
      | (with_reducible exact ih3 _ _ _ _ _ _ _)
      | (with_reducible exact hornbeamlaw21_fixed.mono _)
      | (with_reducible exact sched_Play.mono _ _ _ _)
      | (with_reducible exact LeO.refl _)
      | (with_reducible exact LeO.none _)
      | (with_reducible refine LeO.ite ?_ ?_)
      | (with_reducible refine LeO.bind ?_ (fun _ => ?_))
      | exact ih0 _ _ _ _ _ _
      | exact ih1 _ _ _ _ _ _ _ _ _ _
      | exact ih2 _ _ _ _ _ _ _ _ _ _ _ _ _ _ _
      | exact ih3 _ _ _ _ _ _ _
      | exact hornbeamlaw21_fixed.mono _
      | exact sched_Play.mono _ _ _ _
      | exact LeO.none _
      | refine LeO.ite ?_ ?_
      | refine LeO.bind ?_ (fun _ => ?_)
theorem hornbeamlaw21_SchedOnce.mono : ∀ a0 a1 a2 k, LeO (hornbeamlaw21_SchedOnce.f k a0 a1 a2) (hornbeamlaw21_SchedOnce.f (k + 1) a0 a1 a2) := by
  intro a0 a1 a2 k
  obtain ⟨ih0, ih1, ih2, ih3⟩ := hornbeamlaw21_SchedOnce.mono_l k
  unfold hornbeamlaw21_SchedOnce.f
  repeat' first
      | (with_reducible exact ih0 _ _ _ _ _ _)
      | (with_reducible exact ih1 _ _ _ _ _ _ _ _ _ _)
      | (with_reducible exact ih2 _ _ _ _ _ _ _ _ _ _ _ _ _ _ _)
      | (with_reducible exact ih3 _ _ _ _ _ _ _)
      | (with_reducible exact hornbeamlaw21_fixed.mono _)
      | (with_reducible exact sched_Play.mono _ _ _ _)
      | (with_reducible exact LeO.refl _)
      | (with_reducible exact LeO.none _)
      | (with_reducible refine LeO.ite ?_ ?_)
      | (with_reducible refine LeO.bind ?_ (fun _ => ?_))
      | exact ih0 _ _ _ _ _ _
      | exact ih1 _ _ _ _ _ _ _ _ _ _
      | exact ih2 _ _ _ _ _ _ _ _ _ _ _ _ _ _ _
      | exact ih3 _ _ _ _ _ _ _
      | exact hornbeamlaw21_fixed.mono _
      | exact sched_Play.mono _ _ _ _
      | exact LeO.none _
      | refine LeO.ite ?_ ?_
      | refine LeO.bind ?_ (fun _ => ?_)
def hornbeamlaw21_SchedOnce.T27 : Bool × List (List Nat × List Nat) := (true, [([], []), ([0], [0]), ([1], [1]), ([2], [2]), ([3], [3]), ([4, 3], [3, 4]), ([5, 3], [3, 5]), ([3, 6], [3, 6]), ([7, 3], [7]), ([8], [8]), ([9, 8], [8, 9]), ([8], [8]), ([10, 11, 8], [8, 10, 11]), ([8, 12], [8, 12]), ([13, 8], [13]), ([14], [14]), ([14], [14]), ([16, 14], [14, 16]), ([15, 17, 14], [14, 15, 17]), ([18, 14], [14, 18]), ([14], [14]), ([20, 14], [14, 20]), ([19, 21, 14], [14, 19, 21]), ([14, 22], [14, 22])])
def hornbeamlaw21_SchedOnce.B27 : List Nat := [0, 1, 3, 7, 15, 31, 63, 127, 255, 511, 1023, 511, 4095, 8191, 16383, 32767, 32767, 98303, 262143, 524287, 32767, 1081343, 4194303, 8388607]
theorem hornbeamlaw21_SchedOnce.tab27 : rtab .any (opsOf Try.f6 27) = hornbeamlaw21_SchedOnce.T27 := by kernel_rfl
theorem hornbeamlaw21_SchedOnce.bits27 : waitsOk hornbeamlaw21_SchedOnce.T27.2 hornbeamlaw21_SchedOnce.B27 = true := by kernel_rfl
set_option maxHeartbeats 8000000 in
set_option maxRecDepth 100000 in
theorem hornbeamlaw21_SchedOnce.calls (k : Nat) (a0 : Int) (a1 : Int) (A2 : Option Addr) (c2 : Nat) (l2 : List Int) (r : Bool) (w : World) (hr2 : Kd.C (Kd.int .i64) w A2 l2.length l2) (hc2 : l2.length ≤ c2) (h : hornbeamlaw21_SchedOnce.f k a0 a1 l2 = some r) (hr_ : r = true) :
    Calls Try.prog 6 #[.int .u8 a0, .int .u8 a1, .slice A2 l2.length c2] w fun e w' => e = .returned (.bool r) ∧ Below w.heap.size w w' := by
  have hu42 := Try.underlying42
  have hu52 := Try.underlying52
  have HR_ := Aside0.mk hr_
  clear hr_
  have HR2 := Aside0.mk hr2
  have HC2 := Aside0.mk hc2
  clear hr2 hc2
  have HB := Aside0.mk (Below.refl w.heap.size w)
  have H : (if (l2.length : Int) > 2000 then ((hornbeamlaw21_fixed.f k).bind fun t153 => (some t153)) else ((sched_Play.f k (wrap64 (a0)) (wrap64 (1 + (wrap64 (Int.tmod a1 64)))) l2).bind fun bt154 => (if bt154.2.2.2.2.2.2.2 = 0 then (if 0 ≤ (wrap64 ((wrap64 (1 + (wrap64 (Int.tmod a1 64)))) + 1)) then (if (wrap64 ((wrap64 (1 + (wrap64 (Int.tmod a1 64)))) + 1) : Int).toNat ≤ 35184372088832 then ((some (List.replicate (wrap64 ((wrap64 (1 + (wrap64 (Int.tmod a1 64)))) + 1) : Int).toNat 0 : List Int)).bind fun y169 => (hornbeamlaw21_SchedOnce.l0 k (wrap64 (a0)) (wrap64 (1 + (wrap64 (Int.tmod a1 64)))) bt154.1 y169 (y169.length : Int) 0)) else (none)) else (none)) else (some false)))) = some r := h
  clear h
  by_cases c4 : (l2.length : Int) > 2000
  · rw [if_pos c4] at H
    have c4b0 : decide (2000 < (l2.length : Int)) = true := decide_eq_true c4
    have c4b1 : decide (2000 < l2.length) = true := decide_eq_true (by omega)
    clear c4
    replace H := Option.bind_eq_some_iff.mp H
    obtain ⟨t153, A50, H⟩ := H
    replace H : (some t153) = some r := H
    have A5 := Aside0.mk A50
    clear A50
    obtain rfl := Option.some.inj H
    go_enter Try.func6, Try.ntmps6
    go_wp2_with (first | ((with_reducible refine gate_callee (f := 21) rfl ?_); refine goesL_ (some 24) rfl rfl Try.func21 (by kernel_rfl) rfl #[] rfl (by (try simp only [List.map_toArray, List.map_cons, List.map_nil]); first | done | rfl | (simp only [List.length_drop, List.length_take]; rfl)) ?_; (with_reducible refine (hornbeamlaw21_fixed.calls k  t153 _ A5.out).mono ?_); rintro e w6 ⟨rfl, hb⟩; refine ⟨_, rfl, ?_⟩; have n0_ := Aside0.mk (below_step (by repeat (first | (with_reducible first | exact HB.out | apply below_alloc | apply pw_below_drewN | apply below_drew1) | exact HB.out)) hb); clear HB; have HB := n0_; clear n0_; (try clear hb); (try clear hb2); (try clear hk); (try clear hi)))
    all_goals (go_ret; exact ⟨by first | rfl | (simp [errW_none, errW_some] <;> rfl) | (simp [*, errW_none, errW_some] <;> rfl) | (simp_all; done), by repeat (first | (with_reducible first | exact HB.out | apply below_alloc | apply pw_below_drewN | apply below_drew1) | exact HB.out)⟩)
  · rw [if_neg c4] at H
    have c4b0 : decide (2000 < (l2.length : Int)) = false := decide_eq_false c4
    have c4b1 : decide (2000 < l2.length) = false := decide_eq_false (by omega)
    clear c4
    replace H := Option.bind_eq_some_iff.mp H
    obtain ⟨⟨t154, t157, t158, t159, t160, t163, t166, t167⟩, A70, H⟩ := H
    replace H : (if t167 = 0 then (if 0 ≤ (wrap64 ((wrap64 (1 + (wrap64 (Int.tmod a1 64)))) + 1)) then (if (wrap64 ((wrap64 (1 + (wrap64 (Int.tmod a1 64)))) + 1) : Int).toNat ≤ 35184372088832 then ((some (List.replicate (wrap64 ((wrap64 (1 + (wrap64 (Int.tmod a1 64)))) + 1) : Int).toNat 0 : List Int)).bind fun y169 => (hornbeamlaw21_SchedOnce.l0 k (wrap64 (a0)) (wrap64 (1 + (wrap64 (Int.tmod a1 64)))) t154 y169 (y169.length : Int) 0)) else (none)) else (none)) else (some false)) = some r := H
    have A7 := Aside0.mk A70
    clear A70
    by_cases c8 : t167 = 0
    · rw [if_pos c8] at H
      have c8b0 : (t167 == 0) = true := beq_iff_eq.mpr c8
      have c8b1 : (t167 != 0) = false := bne_eq_false_iff_eq.mpr c8
      clear c8
      obtain ⟨ji9, hji9⟩ : ∃ j_ : Int, (wrap64 ((wrap64 (1 + (wrap64 (Int.tmod a1 64)))) + 1)) = j_ := ⟨_, rfl⟩
      replace H : (if 0 ≤ (ji9) then (if (ji9 : Int).toNat ≤ 35184372088832 then ((some (List.replicate (ji9 : Int).toNat 0 : List Int)).bind fun y169 => (hornbeamlaw21_SchedOnce.l0 k (wrap64 (a0)) (wrap64 (1 + (wrap64 (Int.tmod a1 64)))) t154 y169 (y169.length : Int) 0)) else (none)) else (none)) = some r := by first | (rw [hji9] at H; exact H) | (simp only [hji9] at H ⊢; exact H)
      (try rw [hji9] at A7)
      have hji9w : (IntKind.i64.wrap ((wrap64 (1 + (wrap64 (Int.tmod a1 64)))) + 1)) = ji9 := (i64_w _).trans hji9
      by_cases c10 : 0 ≤ (ji9)
      · rw [if_pos c10] at H
        have c10b0 := eq_true c10
        have c10b1 : decide (0 ≤ (ji9)) = true := decide_eq_true c10
        clear c10
        by_cases c11 : (ji9 : Int).toNat ≤ 35184372088832
        · rw [if_pos c11] at H
          have c11b0 := eq_true c11
          have c11b1 : decide ((ji9 : Int).toNat ≤ 35184372088832) = true := decide_eq_true c11
          clear c11
          obtain ⟨y169, hy169⟩ : ∃ y_ : List Int, y_ = (List.replicate (ji9 : Int).toNat 0) := ⟨_, rfl⟩
          replace H : (hornbeamlaw21_SchedOnce.l0 k (wrap64 (a0)) (wrap64 (1 + (wrap64 (Int.tmod a1 64)))) t154 y169 (y169.length : Int) 0) = some r := by first | (rw [hy169]; with_reducible exact H) | (have H2_ := (Option.bind_some _ _).symm.trans H; rw [hy169]; with_reducible exact H2_) | (have H2_ := (Option.bind_some _ _).symm.trans H; with_reducible exact H2_) | with_reducible exact H | (rw [hy169]; exact H) | exact H
          have Ny169 := Aside0.mk hy169
          clear hy169
          have H' := Aside0.mk H
          clear H
          go_enter Try.func6, Try.ntmps6
          go_wp2_with (first | ((with_reducible refine gate_callee (f := 22) rfl ?_); refine goesL_ (some 35) rfl rfl Try.func22 (by kernel_rfl) rfl #[.int .i64 (wrap64 (a0)), .int .i64 (wrap64 (1 + (wrap64 (Int.tmod a1 64)))), .slice A2 l2.length c2] rfl (by (try simp only [List.map_toArray, List.map_cons, List.map_nil]); first | done | rfl | (simp only [List.length_drop, List.length_take]; rfl)) ?_; (with_reducible refine (sched_Play.calls k (wrap64 (a0)) (wrap64 (1 + (wrap64 (Int.tmod a1 64)))) _ _ l2 t154 t157 t158 t159 t160 t163 t166 t167 _ ?side1 ?side2 A7.out).mono ?_); (case side1 => repeat (first | exact HR2.out | (with_reducible refine Kd.C_alloc ?_ _) | (with_reducible refine Kd.C_drewN ?_ _) | (with_reducible refine Kd.C_drew ?_))); (case side2 => exact HC2.out); rintro e w12 ⟨v155, v161, v164, rfl, ho0, ho1, ho2, hb⟩; refine ⟨_, rfl, ?_⟩; have n0_ := Aside0.mk (Kd.R_lower ho0 (below_size (by repeat (first | (with_reducible first | exact HB.out | apply below_alloc | apply pw_below_drewN | apply below_drew1) | exact HB.out)))); have n1_ := Aside0.mk (Kd.R_lower ho1 (below_size (by repeat (first | (with_reducible first | exact HB.out | apply below_alloc | apply pw_below_drewN | apply below_drew1) | exact HB.out)))); have n2_ := Aside0.mk (Kd.R_lower ho2 (below_size (by repeat (first | (with_reducible first | exact HB.out | apply below_alloc | apply pw_below_drewN | apply below_drew1) | exact HB.out)))); have n3_ := Aside0.mk (below_step (by repeat (first | (with_reducible first | exact HB.out | apply below_alloc | apply pw_below_drewN | apply below_drew1) | exact HB.out)) hb); clear HB; have HO156 := n0_; have HO162 := n1_; have HO165 := n2_; have HB := n3_; clear n0_ n1_ n2_ n3_; (try clear hb); (try clear hb2); (try clear hk); (try clear hi); (try clear ho0); (try clear ho1); (try clear ho2)) | ((with_reducible refine gate_dst (N := 10) rfl ?_); (try (refine gate_guard (by rfl) ?_; dsimp only)); refine box_event ?hg (N := 10) ?hd (cs := #[.int .i64 0, .int .i64 0, .int .i64 0, .slice none 0 0, .slice none 0 0, .bool false]) (t := 42) ?hr ?_; (case hd => rfl); (case hg => rfl); (case hr => first | (go_simp; done) | (go_simp; rfl)); intro gb168 hg w13 hbox hb; have n0_ := Aside0.mk (Kd.R_below (by (with_reducible repeat (first | apply Kd.R_alloc | apply Kd.R_drewN | apply Kd.R_drew)); exact HO156.out) hb); have n1_ := Aside0.mk (Kd.R_below (by (with_reducible repeat (first | apply Kd.R_alloc | apply Kd.R_drewN | apply Kd.R_drew)); exact HO162.out) hb); have n2_ := Aside0.mk (Kd.R_below (by (with_reducible repeat (first | apply Kd.R_alloc | apply Kd.R_drewN | apply Kd.R_drew)); exact HO165.out) hb); have n3_ := Aside0.mk (below_step (by repeat (first | (with_reducible first | exact HB.out | apply below_alloc | apply pw_below_drewN | apply below_drew1) | exact HB.out)) hb); have n4_ := Aside0.mk (hbox); have n5_ := Aside0.mk ((by rw [hg]; exact (below_size (by repeat (first | (with_reducible first | exact HB.out | apply below_alloc | apply pw_below_drewN | apply below_drew1) | exact HB.out))) : w.heap.size ≤ gb168)); have n6_ := Aside0.mk ((by rw [hg]; exact (below_size (by repeat (first | (with_reducible first | exact HB.out | apply below_alloc | apply pw_below_drewN | apply below_drew1) | exact HB.out))) : w.heap.size ≤ gb168)); clear HO156; clear HO162; clear HO165; clear HB; have HO156 := n0_; have HO162 := n1_; have HO165 := n2_; have HB := n3_; have BK168 := n4_; have GW168 := n5_; have GE168 := n6_; clear n0_ n1_ n2_ n3_ n4_ n5_ n6_; clear hb hbox hg; have hcz14_0 : w13.cell? ⟨gb168, 0, none⟩ = some (.int .i64 0) := (blk_cell BK168.out 0).trans rfl; have hcz14_1 : w13.cell? ⟨gb168, 1, none⟩ = some (.int .i64 0) := (blk_cell BK168.out 1).trans rfl; have hcz14_2 : w13.cell? ⟨gb168, 2, none⟩ = some (.int .i64 0) := (blk_cell BK168.out 2).trans rfl; have hcz14_3 : w13.cell? ⟨gb168, 3, none⟩ = some (.slice none 0 0) := (blk_cell BK168.out 3).trans rfl; have hcz14_4 : w13.cell? ⟨gb168, 4, none⟩ = some (.slice none 0 0) := (blk_cell BK168.out 4).trans rfl; have hcz14_5 : w13.cell? ⟨gb168, 5, none⟩ = some (.bool false) := (blk_cell BK168.out 5).trans rfl; have hfz14_0 := blk_frozen BK168.out 0; have hfz14_1 := blk_frozen BK168.out 1; have hfz14_2 := blk_frozen BK168.out 2; have hfz14_3 := blk_frozen BK168.out 3; have hfz14_4 := blk_frozen BK168.out 4; have hfz14_5 := blk_frozen BK168.out 5; obtain ⟨Ao15, co15, eo15⟩ := Kd.R_slice HO162.out; subst eo15; obtain ⟨Ao16, co16, eo16⟩ := Kd.R_slice HO165.out; subst eo16) | ((with_reducible refine gate_dst (N := 43) rfl ?_); (try (refine gate_guard (by rfl) ?_; dsimp only)); refine Kd.R_make (Kd.int .i64) _ 3 rfl (N := 43) rfl 38 _ _ rfl ji9 rfl rfl Try.underlying38 (.int .i64 0) 8 info3 rfl (by decide) (by omega) 0 (ok := fun _ => True) (okp := fun _ => True) rfl (fun _ hk => hk) trivial (of_decide_eq_true (by first | (with_reducible assumption) | assumption)) (Nat.le_trans (Nat.mul_le_mul_right _ (of_decide_eq_true (by first | (with_reducible assumption) | assumption) : ji9.toNat ≤ 35184372088832)) (by omega)) (Below.refl _ _) (Nat.le_refl _) ?_; intro v170 w17 ho18 hb hg_ hnew_; clear hg_ hnew_; (first | rw [← Ny169.out] at ho18 | (simp only [Int.reduceToNat] at ho18; rw [← Ny169.out] at ho18)); have n0_ := Aside0.mk (Kd.R_below (by (with_reducible repeat (first | apply Kd.R_alloc | apply Kd.R_drewN | apply Kd.R_drew)); exact (Kd.R_mono (Kd.R_far (p := ⟨gb168, 5, none⟩) (Kd.R_far (p := ⟨gb168, 4, none⟩) (Kd.R_far (p := ⟨gb168, 3, none⟩) (Kd.R_far (p := ⟨gb168, 2, none⟩) (Kd.R_far (p := ⟨gb168, 1, none⟩) (Kd.R_far (p := ⟨gb168, 0, none⟩) (Kd.R_types HO156.out BK168.out (by decide)) (fun _ hk => hk.2) (.int .i64 t157)) (fun _ hk => hk.2) (.int .i64 t158)) (fun _ hk => hk.2) (.int .i64 t159)) (fun _ hk => hk.2) (.slice Ao15 t160.length co15)) (fun _ hk => hk.2) (.slice Ao16 t163.length co16)) (fun _ hk => hk.2) (.bool t166)) (fun _ h_ => h_.1))) hb); have n1_ := Aside0.mk (Kd.R_elder' (by (with_reducible repeat (first | apply Kd.R_alloc | apply Kd.R_drewN | apply Kd.R_drew)); exact (Kd.R_mono (Kd.R_far (p := ⟨gb168, 5, none⟩) (Kd.R_far (p := ⟨gb168, 4, none⟩) (Kd.R_far (p := ⟨gb168, 3, none⟩) (Kd.R_far (p := ⟨gb168, 2, none⟩) (Kd.R_far (p := ⟨gb168, 1, none⟩) (Kd.R_far (p := ⟨gb168, 0, none⟩) (Kd.R_types HO162.out BK168.out (by decide)) (fun _ hk => hk.2) (.int .i64 t157)) (fun _ hk => hk.2) (.int .i64 t158)) (fun _ hk => hk.2) (.int .i64 t159)) (fun _ hk => hk.2) (.slice Ao15 t160.length co15)) (fun _ hk => hk.2) (.slice Ao16 t163.length co16)) (fun _ hk => hk.2) (.bool t166)) (fun _ h_ => h_.1))) (Kd.R_base ho18) hb); have n2_ := Aside0.mk (Kd.R_below (by (with_reducible repeat (first | apply Kd.R_alloc | apply Kd.R_drewN | apply Kd.R_drew)); exact (Kd.R_mono (Kd.R_far (p := ⟨gb168, 5, none⟩) (Kd.R_far (p := ⟨gb168, 4, none⟩) (Kd.R_far (p := ⟨gb168, 3, none⟩) (Kd.R_far (p := ⟨gb168, 2, none⟩) (Kd.R_far (p := ⟨gb168, 1, none⟩) (Kd.R_far (p := ⟨gb168, 0, none⟩) (Kd.R_types HO165.out BK168.out (by decide)) (fun _ hk => hk.2) (.int .i64 t157)) (fun _ hk => hk.2) (.int .i64 t158)) (fun _ hk => hk.2) (.int .i64 t159)) (fun _ hk => hk.2) (.slice Ao15 t160.length co15)) (fun _ hk => hk.2) (.slice Ao16 t163.length co16)) (fun _ hk => hk.2) (.bool t166)) (fun _ h_ => h_.1))) hb); have n3_ := Aside0.mk (Kd.R_lower (Kd.R_new' ho18 (Kd.R_lt (by (with_reducible repeat (first | apply Kd.R_alloc | apply Kd.R_drewN | apply Kd.R_drew)); exact (Kd.R_mono (Kd.R_far (p := ⟨gb168, 5, none⟩) (Kd.R_far (p := ⟨gb168, 4, none⟩) (Kd.R_far (p := ⟨gb168, 3, none⟩) (Kd.R_far (p := ⟨gb168, 2, none⟩) (Kd.R_far (p := ⟨gb168, 1, none⟩) (Kd.R_far (p := ⟨gb168, 0, none⟩) (Kd.R_types HO162.out BK168.out (by decide)) (fun _ hk => hk.2) (.int .i64 t157)) (fun _ hk => hk.2) (.int .i64 t158)) (fun _ hk => hk.2) (.int .i64 t159)) (fun _ hk => hk.2) (.slice Ao15 t160.length co15)) (fun _ hk => hk.2) (.slice Ao16 t163.length co16)) (fun _ hk => hk.2) (.bool t166)) (fun _ h_ => h_.1))))) (below_size (by repeat (first | (with_reducible first | exact HB.out | apply below_alloc | apply pw_below_drewN | apply below_drew1 | refine below_set ?_ GE168.out) | exact HB.out)))); have n4_ := Aside0.mk (blk_below (g := gb168) (o := .cells #[.int .i64 t157, .int .i64 t158, .int .i64 t159, .slice Ao15 t160.length co15, .slice Ao16 t163.length co16, .bool t166] 42 (0, 0)) (by (with_reducible repeat (first | refine blk_drewN ?_ _ | refine blk_drew ?_ | refine blk_alloc ?_ _)); refine blk_put (cs := #[.int .i64 t157, .int .i64 t158, .int .i64 t159, .slice Ao15 t160.length co15, .slice Ao16 t163.length co16, .bool false]) ?_ 5 _ rfl; (with_reducible repeat (first | refine blk_drewN ?_ _ | refine blk_drew ?_ | refine blk_alloc ?_ _)); refine blk_put (cs := #[.int .i64 t157, .int .i64 t158, .int .i64 t159, .slice Ao15 t160.length co15, .slice none 0 0, .bool false]) ?_ 4 _ rfl; (with_reducible repeat (first | refine blk_drewN ?_ _ | refine blk_drew ?_ | refine blk_alloc ?_ _)); refine blk_put (cs := #[.int .i64 t157, .int .i64 t158, .int .i64 t159, .slice none 0 0, .slice none 0 0, .bool false]) ?_ 3 _ rfl; (with_reducible repeat (first | refine blk_drewN ?_ _ | refine blk_drew ?_ | refine blk_alloc ?_ _)); refine blk_put (cs := #[.int .i64 t157, .int .i64 t158, .int .i64 0, .slice none 0 0, .slice none 0 0, .bool false]) ?_ 2 _ rfl; (with_reducible repeat (first | refine blk_drewN ?_ _ | refine blk_drew ?_ | refine blk_alloc ?_ _)); refine blk_put (cs := #[.int .i64 t157, .int .i64 0, .int .i64 0, .slice none 0 0, .slice none 0 0, .bool false]) ?_ 1 _ rfl; (with_reducible repeat (first | refine blk_drewN ?_ _ | refine blk_drew ?_ | refine blk_alloc ?_ _)); refine blk_put (cs := #[.int .i64 0, .int .i64 0, .int .i64 0, .slice none 0 0, .slice none 0 0, .bool false]) ?_ 0 _ rfl; (with_reducible repeat (first | refine blk_drewN ?_ _ | refine blk_drew ?_ | refine blk_alloc ?_ _)); exact BK168.out) hb); have n5_ := Aside0.mk (below_step (by repeat (first | (with_reducible first | exact HB.out | apply below_alloc | apply pw_below_drewN | apply below_drew1 | refine below_set ?_ GE168.out) | exact HB.out)) hb); clear HO156; clear HO162; clear HO165; clear BK168; clear HB; have HO156 := n0_; have HO162 := n1_; have HO165 := n2_; have HO171 := n3_; have BK168 := n4_; have HB := n5_; clear n0_ n1_ n2_ n3_ n4_ n5_; clear hb ho18; obtain ⟨Ao19, co19, eo19⟩ := Kd.R_slice HO171.out; subst eo19))
          go_loopg [46] k (fun kq v46 w' => ∃ (x12_1 : List Int) (x46_1 : Int), v46 = .int .i64 x46_1 ∧ Aside0 (hornbeamlaw21_SchedOnce.l0 kq (wrap64 (a0)) (wrap64 (1 + (wrap64 (Int.tmod a1 64)))) t154 x12_1 (y169.length : Int) x46_1 = some r) ∧ Aside0 (kq ≤ k) ∧ Aside0 (Kd.R k52 52 w' w.heap.size (fun _ => True) v155 t154) ∧ Aside0 (Kd.R (Kd.int .i64) 3 w' w.heap.size (fun k_ => some k_ ≠ ((.slice Ao15 t160.length co15) : Value).ownBlock) (.slice Ao19 y169.length co19) x12_1) ∧ Aside0 (Kd.R (Kd.int .i64) 3 w' w.heap.size (fun k_ => some k_ ≠ ((.slice Ao19 y169.length co19) : Value).ownBlock) (.slice Ao15 t160.length co15) t160) ∧ Aside0 (Kd.R Kd.bool 4 w' w.heap.size (fun _ => True) (.slice Ao16 t163.length co16) t163) ∧ Aside0 (w'.heap[gb168]? = some (.cells #[.int .i64 t157, .int .i64 t158, .int .i64 t159, (.slice Ao15 t160.length co15), (.slice Ao16 t163.length co16), .bool t166] 42 (0, 0))) ∧ Aside0 (Below w.heap.size w w'))
          case atStart => exact ⟨(y169), (0), (by first | rfl | (simp; done) | (simp [*]; done)), H', ⟨Nat.le_refl _⟩, ⟨by (with_reducible repeat (first | apply Kd.R_alloc | apply Kd.R_drewN | apply Kd.R_drew)); exact HO156.out⟩, ⟨by (with_reducible repeat (first | apply Kd.R_alloc | apply Kd.R_drewN | apply Kd.R_drew)); exact Kd.R_mono HO171.out (fun _ hk => hk.2)⟩, ⟨by (with_reducible repeat (first | apply Kd.R_alloc | apply Kd.R_drewN | apply Kd.R_drew)); exact Kd.R_mono HO162.out (fun _ hk => hk.2)⟩, ⟨by (with_reducible repeat (first | apply Kd.R_alloc | apply Kd.R_drewN | apply Kd.R_drew)); exact HO165.out⟩, ⟨by (with_reducible repeat (first | refine blk_drewN ?_ _ | refine blk_drew ?_ | refine blk_alloc ?_ _)); exact BK168.out⟩, ⟨by repeat (first | (with_reducible first | exact HB.out | apply below_alloc | apply pw_below_drewN | apply below_drew1 | refine below_set ?_ GE168.out) | exact HB.out)⟩⟩
          case round =>
            clear H'
            try clear c1
            try clear c2
            try clear p2
            try clear c4
            try clear c4b0
            try clear c4b1
            try clear c6
            try clear p6
            try clear c8
            try clear c8b0
            try clear c8b1
            try clear c10
            try clear c10b0
            try clear c10b1
            try clear c11
            try clear c11b0
            try clear c11b1
            try clear hcz14_0
            try clear hcz14_1
            try clear hcz14_2
            try clear hcz14_3
            try clear hcz14_4
            try clear hcz14_5
            try clear hfz14_0
            try clear hfz14_1
            try clear hfz14_2
            try clear hfz14_3
            try clear hfz14_4
            try clear hfz14_5
            obtain ⟨x12_1, x46_1, rfl, HA, HK1, HO_9, HO_12, HO_169003, HO_169004, BK168, HB⟩ := hrel
            have hl12_1 := (Kd.R_reads' HO_12.out).1
            rw [hl12_1] at HO_12
            (try simp only [hl12_1])
            (try simp only [hl12_1] at BK168)
            (try simp only [hl12_1] at HO_9)
            (try simp only [hl12_1] at HO_169003)
            (try simp only [hl12_1] at HO_169004)
            cases gk with
            | zero => exact absurd HA.out (by simp [hornbeamlaw21_SchedOnce.l0])
            | succ k1 =>
              have H := HA.out
              clear HA
              simp only [hornbeamlaw21_SchedOnce.l0] at H
              by_cases c20 : x46_1 < (y169.length : Int)
              · rw [if_pos c20] at H
                have c20b0 : decide (x46_1 < (y169.length : Int)) = true := decide_eq_true c20
                (try (have c20b0z := c20b0; rw [hl12_1] at c20b0z))
                clear c20
                by_cases c21 : 0 ≤ x46_1
                · rw [if_pos c21] at H
                  have c21b0 : decide (0 ≤ x46_1) = true := decide_eq_true c21
                  clear c21
                  by_cases c22 : x46_1 < (x12_1.length : Int)
                  · rw [if_pos c22] at H
                    have c22b0 : decide (x46_1 < (x12_1.length : Int)) = true := decide_eq_true c22
                    clear c22
                    obtain ⟨y172, hy172⟩ : ∃ y_ : List Int, y_ = (x12_1.set (x46_1 : Int).toNat (-1)) := ⟨_, rfl⟩
                    replace H : (hornbeamlaw21_SchedOnce.l0 k1 (wrap64 (a0)) (wrap64 (1 + (wrap64 (Int.tmod a1 64)))) t154 y172 (y169.length : Int) (wrap64 (x46_1 + 1))) = some r := by first | (rw [hy172]; with_reducible exact H) | (have H2_ := (Option.bind_some _ _).symm.trans H; rw [hy172]; with_reducible exact H2_) | (have H2_ := (Option.bind_some _ _).symm.trans H; with_reducible exact H2_) | with_reducible exact H | (rw [hy172]; exact H) | exact H
                    have Ny172 := Aside0.mk hy172
                    clear hy172
                    have H' := Aside0.mk H
                    clear H
                    have p23 : 0 ≤ (x46_1 : Int) := of_decide_eq_true (by first | (with_reducible assumption) | assumption)
                    have q23 : (x46_1 : Int) < ((x12_1.length : Int) : Int) := of_decide_eq_true (by first | (with_reducible assumption) | assumption)
                    obtain ⟨go23, co23, eo23, gb23, gl23, cl23, HG23⟩ := Kd.R_form HO_12.out (by omega)
                    (first | cases eo23 | (injection eo23 with ea_ en_ ec_; (first | subst ea_ | (injection ea_ with ea_; subst ea_)); subst ec_; clear en_))
                    have GB23 := Aside0.mk gb23
                    have GG23 := Aside0.mk HG23
                    clear gb23 gl23 HG23
                    obtain ⟨hx23_0, hf23_0⟩ := Kd.R_celln 0 HO_12.out (x46_1 : Int) p23 q23
                    replace p23 := eq_true p23
                    replace q23 := eq_true q23
                    have HP24 := Kd.R_putg HO_12.out (x46_1 : Int) (-1)
                    go_wp2_with (first | ((with_reducible refine gate_store (t := 3) (p := 51) rfl ?_); refine store_event (t := 3) (p := 51) (v := ?vo_w25) (w1 := (wr.setCell ⟨go23, (x46_1 : Int).toNat, none⟩ (.int .i64 (-1)))) ?hg ?ho ?hn ?hr ?_; (case ho => rfl); (case hg => rfl); (case hn => rfl); (case hr => first | (go_simp; done) | (go_simp; rfl)); intro w25 hw; have hg : wr.grownBy w25 (some go23) := (by rw [hw]; exact HP24.2); have hp_ : Kd.R (Kd.int .i64) 3 w25 w.heap.size (fun k_ => some k_ ≠ (.slice Ao15 t160.length co15 : Value).ownBlock) (.slice (some ⟨go23, 0, none⟩) x12_1.length co19) y172 := (by rw [hw, Ny172.out]; exact HP24.1); clear HP24; have n0_ := Aside0.mk (Kd.R_over' (v := (.slice (some ⟨go23, 0, none⟩) x12_1.length co19)) (by (with_reducible repeat (first | apply Kd.R_alloc | apply Kd.R_drewN | apply Kd.R_drew)); exact HO_9.out) (Kd.R_typed HO_12.out) (by decide) hg); have n1_ := Aside0.mk (hp_); have n2_ := Aside0.mk (Kd.R_after (v := (.slice (some ⟨go23, 0, none⟩) x12_1.length co19)) (v1 := (.slice (some ⟨go23, 0, none⟩) x12_1.length co19)) (ok := (fun _ => True)) (by (with_reducible repeat (first | apply Kd.R_alloc | apply Kd.R_drewN | apply Kd.R_drew)); exact Kd.R_mono HO_169003.out (fun _ hk => ⟨trivial, hk⟩)) hg (.inl rfl)); have n3_ := Aside0.mk (Kd.R_over' (v := (.slice (some ⟨go23, 0, none⟩) x12_1.length co19)) (by (with_reducible repeat (first | apply Kd.R_alloc | apply Kd.R_drewN | apply Kd.R_drew)); exact HO_169004.out) (Kd.R_typed HO_12.out) (by decide) hg); have n4_ := Aside0.mk (blk_grown (g := gb168) (o := .cells #[.int .i64 t157, .int .i64 t158, .int .i64 t159, .slice Ao15 t160.length co15, .slice Ao16 t163.length co16, .bool t166] 42 (0, 0)) (by (with_reducible repeat (first | refine blk_drewN ?_ _ | refine blk_drew ?_ | refine blk_alloc ?_ _)); exact BK168.out) hg (Kd.R_ne HO_12.out BK168.out (by decide))); have n5_ := Aside0.mk ((by rw [hw]; exact below_set (HB.out) GB23.out : Below w.heap.size w w25)); clear HO_9; clear HO_12; clear HO_169003; clear HO_169004; clear BK168; clear HB; have HO_9 := n0_; have HO_12 := n1_; have HO_169003 := n2_; have HO_169004 := n3_; have BK168 := n4_; have HB := n5_; clear n0_ n1_ n2_ n3_ n4_ n5_; clear hg hw hp_))
                    (try simp only [← hl12_1])
                    go_roundg k1
                    case measure => have := HK1.out; omega
                    case rel => exact ⟨(y172), (wrap64 (x46_1 + 1)), (by first | rfl | (simp; done) | (simp [*]; done)), H', ⟨by have := HK1.out; omega⟩, ⟨by (try simp only [hl12_1]); (with_reducible repeat (first | apply Kd.R_alloc | apply Kd.R_drewN | apply Kd.R_drew)); exact HO_9.out⟩, ⟨by (try simp only [hl12_1]); (with_reducible repeat (first | apply Kd.R_alloc | apply Kd.R_drewN | apply Kd.R_drew)); exact HO_12.out⟩, ⟨by (try simp only [hl12_1]); (with_reducible repeat (first | apply Kd.R_alloc | apply Kd.R_drewN | apply Kd.R_drew)); exact Kd.R_mono HO_169003.out (fun _ hk => hk.2)⟩, ⟨by (try simp only [hl12_1]); (with_reducible repeat (first | apply Kd.R_alloc | apply Kd.R_drewN | apply Kd.R_drew)); exact HO_169004.out⟩, ⟨by (try simp only [hl12_1]); (with_reducible repeat (first | refine blk_drewN ?_ _ | refine blk_drew ?_ | refine blk_alloc ?_ _)); exact BK168.out⟩, ⟨by repeat (first | (with_reducible first | exact HB.out | apply below_alloc | apply pw_below_drewN | apply below_drew1 | refine below_set ?_ GE168.out) | exact HB.out)⟩⟩
                  · rw [if_neg c22] at H
                    exact absurd H (by simp)
                · rw [if_neg c21] at H
                  exact absurd H (by simp)
              · rw [if_neg c20] at H
                have c20b0 : decide (x46_1 < (y169.length : Int)) = false := decide_eq_false c20
                (try (have c20b0z := c20b0; rw [hl12_1] at c20b0z))
                clear c20
                obtain ⟨ji26, hji26⟩ : ∃ j_ : Int, (wrap64 (a0)) = j_ := ⟨_, rfl⟩
                replace H : (if 0 ≤ (ji26) then (if ((ji26) : Int).toNat ≤ 35184372088832 then (hornbeamlaw21_SchedOnce.l1 k1 (ji26) (wrap64 (1 + (wrap64 (Int.tmod a1 64)))) t154 x12_1 0 (List.replicate ((ji26) : Int).toNat 0) 0 t154 (t154.length : Int) 0) else (none)) else (none)) = some r := by first | (rw [hji26] at H; exact H) | (simp only [hji26] at H ⊢; exact H)
                have hji26w : (IntKind.i64.wrap (a0)) = ji26 := (i64_w _).trans hji26
                by_cases c27 : 0 ≤ (ji26)
                · rw [if_pos c27] at H
                  have c27b0 := eq_true c27
                  have c27b1 : decide (0 ≤ (ji26)) = true := decide_eq_true c27
                  clear c27
                  by_cases c28 : ((ji26) : Int).toNat ≤ 35184372088832
                  · rw [if_pos c28] at H
                    have c28b0 := eq_true c28
                    have c28b1 : decide (((ji26) : Int).toNat ≤ 35184372088832) = true := decide_eq_true c28
                    clear c28
                    obtain ⟨y173, hy173⟩ : ∃ y_ : List Int, y_ = (List.replicate ((ji26) : Int).toNat 0) := ⟨_, rfl⟩
                    replace H : (hornbeamlaw21_SchedOnce.l1 k1 (ji26) (wrap64 (1 + (wrap64 (Int.tmod a1 64)))) t154 x12_1 0 y173 0 t154 (t154.length : Int) 0) = some r := by first | (rw [hy173]; with_reducible exact H) | (have H2_ := (Option.bind_some _ _).symm.trans H; rw [hy173]; with_reducible exact H2_) | (have H2_ := (Option.bind_some _ _).symm.trans H; with_reducible exact H2_) | with_reducible exact H | (rw [hy173]; exact H) | exact H
                    have Ny173 := Aside0.mk hy173
                    clear hy173
                    have H' := Aside0.mk H
                    clear H
                    try go_wp2
                    have n0_ := Aside0.mk (Kd.R_drew HO_9.out)
                    have n1_ := Aside0.mk (Kd.R_drew HO_12.out)
                    have n2_ := Aside0.mk (Kd.R_drew HO_169003.out)
                    have n3_ := Aside0.mk (Kd.R_drew HO_169004.out)
                    have n4_ := Aside0.mk (blk_drew BK168.out)
                    have n5_ := Aside0.mk (below_drew1 HB.out)
                    clear HO_9
                    clear HO_12
                    clear HO_169003
                    clear HO_169004
                    clear BK168
                    clear HB
                    have HO_9 := n0_
                    have HO_12 := n1_
                    have HO_169003 := n2_
                    have HO_169004 := n3_
                    have BK168 := n4_
                    have HB := n5_
                    clear n0_ n1_ n2_ n3_ n4_ n5_
                    refine start_ (n := 5) (S := fun w' => True) (ds := []) #[false, false, false, false, false] (by kernel_rfl) rfl rfl trivial (fun hHeld => ?_)
                    generalize wr.drew = w29 at HO_9 HO_12 HO_169003 HO_169004 BK168 HB hHeld ⊢
                    refine pure_ (i := 0) (N := some 53) (v := ?_) (a' := ?_) #[true, false, false, false, false] rfl rfl (by kernel_rfl) (fun _ _ _ h => h) (Or.inl ⟨by rfl, ?_⟩) ?_ ?_
                    rotate_left
                    · intro w'
                      go_simp
                      with_reducible rfl
                    rotate_left
                    · simp only [Act.put, List.setIfInBounds_toArray, List.set_cons_zero, List.set_cons_succ, i64_w, i32_w]
                      rfl
                    refine pure_ (i := 2) (N := some 14) (v := ?_) (a' := ?_) #[true, false, true, false, false] rfl rfl (by kernel_rfl) (fun _ _ _ h => h) (Or.inl ⟨by rfl, ?_⟩) ?_ ?_
                    rotate_left
                    · intro w'
                      go_simp
                      with_reducible rfl
                    rotate_left
                    · simp only [Act.put, List.setIfInBounds_toArray, List.set_cons_zero, List.set_cons_succ, i64_w, i32_w]
                      rfl
                    refine one_ (i := 1) (N := some 54) #[true, true, true, false, false] rfl rfl (by kernel_rfl) (by decide) (fun K hK => ?_)
                    refine Kd.R_make_step (Kd.int .i64) _ 3 (by rfl) (N := 54) rfl 38 _ _ rfl (ji26) rfl rfl Try.underlying38 (.int .i64 0) 8 info3 rfl (by decide) (by omega) 0 (ok := fun _ => True) (okp := fun _ => True) rfl (fun _ hk => hk) trivial (of_decide_eq_true (by first | (with_reducible assumption) | assumption)) (Nat.le_trans (Nat.mul_le_mul_right _ (of_decide_eq_true (by first | (with_reducible assumption) | assumption) : (ji26).toNat ≤ 35184372088832)) (by omega)) (Below.refl _ _) (Nat.le_refl _) ?_
                    intro v174 w30 ho31 hb hg_ hnew_
                    clear hg_ hnew_
                    (first | rw [← Ny173.out] at ho31 | (simp only [Int.reduceToNat] at ho31; rw [← Ny173.out] at ho31))
                    have n0_ := Aside0.mk (Kd.R_below (by (with_reducible repeat (first | apply Kd.R_alloc | apply Kd.R_drewN | apply Kd.R_drew)); exact HO_9.out) hb)
                    have n1_ := Aside0.mk (Kd.R_elder' (by (with_reducible repeat (first | apply Kd.R_alloc | apply Kd.R_drewN | apply Kd.R_drew)); exact HO_12.out) (Kd.R_base ho31) hb)
                    have n2_ := Aside0.mk (Kd.R_elder' (by (with_reducible repeat (first | apply Kd.R_alloc | apply Kd.R_drewN | apply Kd.R_drew)); exact HO_169003.out) (Kd.R_base ho31) hb)
                    have n3_ := Aside0.mk (Kd.R_below (by (with_reducible repeat (first | apply Kd.R_alloc | apply Kd.R_drewN | apply Kd.R_drew)); exact HO_169004.out) hb)
                    have n4_ := Aside0.mk (Kd.R_lower (Kd.R_new' (Kd.R_new' ho31 (Kd.R_lt (by (with_reducible repeat (first | apply Kd.R_alloc | apply Kd.R_drewN | apply Kd.R_drew)); exact HO_12.out))) (Kd.R_lt (by (with_reducible repeat (first | apply Kd.R_alloc | apply Kd.R_drewN | apply Kd.R_drew)); exact HO_169003.out))) (below_size (by repeat (first | (with_reducible first | exact HB.out | apply below_alloc | apply pw_below_drewN | apply below_drew1 | refine below_set ?_ GE168.out) | exact HB.out))))
                    have n5_ := Aside0.mk (blk_below (g := gb168) (o := .cells #[.int .i64 t157, .int .i64 t158, .int .i64 t159, .slice Ao15 t160.length co15, .slice Ao16 t163.length co16, .bool t166] 42 (0, 0)) (by (with_reducible repeat (first | refine blk_drewN ?_ _ | refine blk_drew ?_ | refine blk_alloc ?_ _)); exact BK168.out) hb)
                    have n6_ := Aside0.mk (below_step (by repeat (first | (with_reducible first | exact HB.out | apply below_alloc | apply pw_below_drewN | apply below_drew1 | refine below_set ?_ GE168.out) | exact HB.out)) hb)
                    clear HO_9
                    clear HO_12
                    clear HO_169003
                    clear HO_169004
                    clear BK168
                    clear HB
                    have HO_9 := n0_
                    have HO_12 := n1_
                    have HO_169003 := n2_
                    have HO_169004 := n3_
                    have HO175 := n4_
                    have BK168 := n5_
                    have HB := n6_
                    clear n0_ n1_ n2_ n3_ n4_ n5_ n6_
                    clear hb ho31
                    refine hK.out _ _ trivial (fun hHeld => ?_)
                    clear hK K
                    refine norm_ (a' := ?_) ?_ ?_
                    rotate_left
                    · show Act.put _ (some 54) _ = _
                      simp only [Act.put, List.setIfInBounds_toArray, List.set_cons_zero, List.set_cons_succ, i64_w, i32_w]
                      rfl
                    refine pure_ (i := 3) (N := some 15) (v := ?_) (a' := ?_) #[true, true, true, true, false] rfl rfl (by kernel_rfl) (fun _ _ _ h => h) (Or.inl ⟨by rfl, ?_⟩) ?_ ?_
                    rotate_left
                    · intro w'
                      go_simp
                      with_reducible rfl
                    rotate_left
                    · simp only [Act.put, List.setIfInBounds_toArray, List.set_cons_zero, List.set_cons_succ, i64_w, i32_w]
                      rfl
                    refine pure_ (i := 4) (N := some 16) (v := ?_) (a' := ?_) #[true, true, true, true, true] rfl rfl (by kernel_rfl) (fun _ _ _ h => h) (Or.inl ⟨by rfl, ?_⟩) ?_ ?_
                    rotate_left
                    · intro w'
                      go_simp
                      with_reducible rfl
                    rotate_left
                    · simp only [Act.put, List.setIfInBounds_toArray, List.set_cons_zero, List.set_cons_succ, i64_w, i32_w]
                      rfl
                    refine done_ (by kernel_rfl) ?_
                    obtain ⟨Ao32, co32, eo32⟩ := Kd.R_slice HO_9.out
                    subst eo32
                    try go_wp2
                    go_loopg [14, 16, 57] k1 (fun kq v14 v16 v57 w' => ∃ (x12_2 : List Int) (x14_2 : Int) (x15_2 : List Int) (x16_2 : Int) (x57_2 : Int), v14 = .int .i64 x14_2 ∧ v16 = .int .i64 x16_2 ∧ v57 = .int .i64 x57_2 ∧ Aside0 (hornbeamlaw21_SchedOnce.l1 kq (ji26) (wrap64 (1 + (wrap64 (Int.tmod a1 64)))) t154 x12_2 x14_2 x15_2 x16_2 t154 (t154.length : Int) x57_2 = some r) ∧ Aside0 (kq ≤ k1) ∧ Aside0 (Kd.R k52 52 w' w.heap.size (fun _ => True) (.slice Ao32 t154.length co32) t154) ∧ Aside0 (Kd.R (Kd.int .i64) 3 w' w.heap.size (fun k_ => some k_ ≠ (v174 : Value).ownBlock ∧ some k_ ≠ ((.slice Ao15 t160.length co15) : Value).ownBlock) (.slice Ao19 x12_1.length co19) x12_2) ∧ Aside0 (Kd.R (Kd.int .i64) 3 w' w.heap.size (fun k_ => some k_ ≠ ((.slice Ao19 x12_1.length co19) : Value).ownBlock ∧ some k_ ≠ ((.slice Ao15 t160.length co15) : Value).ownBlock) v174 x15_2) ∧ Aside0 (Kd.R k52 52 w' w.heap.size (fun _ => True) (.slice Ao32 t154.length co32) t154) ∧ Aside0 (Kd.R (Kd.int .i64) 3 w' w.heap.size (fun k_ => some k_ ≠ ((.slice Ao19 x12_1.length co19) : Value).ownBlock ∧ some k_ ≠ (v174 : Value).ownBlock) (.slice Ao15 t160.length co15) t160) ∧ Aside0 (Kd.R Kd.bool 4 w' w.heap.size (fun _ => True) (.slice Ao16 t163.length co16) t163) ∧ Aside0 (w'.heap[gb168]? = some (.cells #[.int .i64 t157, .int .i64 t158, .int .i64 t159, (.slice Ao15 t160.length co15), (.slice Ao16 t163.length co16), .bool t166] 42 (0, 0))) ∧ Aside0 (Below w.heap.size w w'))
                    case atStart => exact ⟨(x12_1), (0), (y173), (0), (0), (by first | rfl | (simp; done) | (simp [*]; done)), (by first | rfl | (simp; done) | (simp [*]; done)), (by first | rfl | (simp; done) | (simp [*]; done)), H', ⟨Nat.le_refl _⟩, ⟨by (try simp only [hl12_1]); (with_reducible repeat (first | apply Kd.R_alloc | apply Kd.R_drewN | apply Kd.R_drew)); exact HO_9.out⟩, ⟨by (try simp only [hl12_1]); (with_reducible repeat (first | apply Kd.R_alloc | apply Kd.R_drewN | apply Kd.R_drew)); exact Kd.R_mono HO_12.out (fun _ hk => ⟨hk.2, hk.1⟩)⟩, ⟨by (try simp only [hl12_1]); (with_reducible repeat (first | apply Kd.R_alloc | apply Kd.R_drewN | apply Kd.R_drew)); exact Kd.R_mono HO175.out (fun _ hk => ⟨hk.1.2, hk.2⟩)⟩, ⟨by (try simp only [hl12_1]); (with_reducible repeat (first | apply Kd.R_alloc | apply Kd.R_drewN | apply Kd.R_drew)); exact HO_9.out⟩, ⟨by (try simp only [hl12_1]); (with_reducible repeat (first | apply Kd.R_alloc | apply Kd.R_drewN | apply Kd.R_drew)); exact HO_169003.out⟩, ⟨by (try simp only [hl12_1]); (with_reducible repeat (first | apply Kd.R_alloc | apply Kd.R_drewN | apply Kd.R_drew)); exact HO_169004.out⟩, ⟨by (try simp only [hl12_1]); (with_reducible repeat (first | refine blk_drewN ?_ _ | refine blk_drew ?_ | refine blk_alloc ?_ _)); exact BK168.out⟩, ⟨by repeat (first | (with_reducible first | exact HB.out | apply below_alloc | apply pw_below_drewN | apply below_drew1 | refine below_set ?_ GE168.out) | exact HB.out)⟩⟩
                    case round =>
                      clear H'
                      try clear c1
                      try clear c2
                      try clear p2
                      try clear q2
                      try clear hx2
                      try clear c4
                      try clear c4b0
                      try clear c4b1
                      try clear c6
                      try clear p6
                      try clear c8
                      try clear c8b0
                      try clear c8b1
                      try clear c10
                      try clear c10b0
                      try clear c10b1
                      try clear c11
                      try clear c11b0
                      try clear c11b1
                      try clear c20
                      try clear c20b0
                      try clear c21
                      try clear c21b0
                      try clear c22
                      try clear c22b0
                      try clear p23
                      try clear q23
                      try clear hx23
                      try clear hf23
                      try clear c27
                      try clear c27b0
                      try clear c27b1
                      try clear c28
                      try clear c28b0
                      try clear c28b1
                      try clear hcz14_0
                      try clear hcz14_1
                      try clear hcz14_2
                      try clear hcz14_3
                      try clear hcz14_4
                      try clear hcz14_5
                      try clear hfz14_0
                      try clear hfz14_1
                      try clear hfz14_2
                      try clear hfz14_3
                      try clear hfz14_4
                      try clear hfz14_5
                      try clear hx23_0
                      try clear p2
                      try clear p23
                      try clear p6
                      try clear q23
                      obtain ⟨x12_2, x14_2, x15_2, x16_2, x57_2, rfl, rfl, rfl, HA, HK2, HO_9, HO_12, HO_15, HO_55, HO_169003, HO_169004, BK168, HB⟩ := hrel
                      have hl12_2 := (Kd.R_reads' HO_12.out).1
                      rw [hl12_2] at HO_12
                      (try simp only [hl12_2])
                      (try simp only [hl12_2] at BK168)
                      (try simp only [hl12_2] at HO_9)
                      (try simp only [hl12_2] at HO_15)
                      (try simp only [hl12_2] at HO_55)
                      (try simp only [hl12_2] at HO_169003)
                      (try simp only [hl12_2] at HO_169004)
                      cases gk with
                      | zero => exact absurd HA.out (by simp [hornbeamlaw21_SchedOnce.l1])
                      | succ k2 =>
                        have H := HA.out
                        clear HA
                        simp only [hornbeamlaw21_SchedOnce.l1] at H
                        by_cases c33 : x57_2 < (t154.length : Int)
                        · rw [if_pos c33] at H
                          have c33b0 : decide (x57_2 < (t154.length : Int)) = true := decide_eq_true c33
                          clear c33
                          by_cases c34 : 0 ≤ x57_2
                          · rw [if_pos c34] at H
                            have c34b0 : decide (0 ≤ x57_2) = true := decide_eq_true c34
                            clear c34
                            by_cases c35 : x57_2 < (t154.length : Int)
                            · rw [if_pos c35] at H
                              have c35b0 : decide (x57_2 < (t154.length : Int)) = true := decide_eq_true c35
                              clear c35
                              have HC36 := Aside0.mk H
                              clear H
                              have p176 : 0 ≤ (x57_2 : Int) := of_decide_eq_true (by first | (with_reducible assumption) | assumption)
                              have q176 : x57_2 < (t154.length : Int) := of_decide_eq_true (by first | (with_reducible assumption) | assumption)
                              obtain ⟨ad176, e176, hx176_0, hx176_1, hx176_2⟩ := at_T52 (Kd.R_reads' HO_55.out).2.2 x57_2 p176 q176
                              cases e176
                              replace p176 := eq_true p176
                              replace q176 := eq_true q176
                              go_upto_region 17 with (first | ((with_reducible refine gate_dst (N := 18) rfl ?_); (try (refine gate_guard (by rfl) ?_; dsimp only)); refine box_event ?hg (N := 18) ?hd (cs := #[.int .i64 0, .int .i64 0, .int .i64 0]) (t := 52) ?hr ?_; (case hd => rfl); (case hg => rfl); (case hr => first | (go_simp; done) | (go_simp; rfl)); intro gb177 hg w37 hbox hb; have n0_ := Aside0.mk (Kd.R_below (Kd.R_elderB (by (with_reducible repeat (first | apply Kd.R_alloc | apply Kd.R_drewN | apply Kd.R_drew)); exact HO_9.out) gb177 (Nat.le_of_eq hg.symm)) hb); have n1_ := Aside0.mk (Kd.R_below (by (with_reducible repeat (first | apply Kd.R_alloc | apply Kd.R_drewN | apply Kd.R_drew)); exact HO_12.out) hb); have n2_ := Aside0.mk (Kd.R_below (by (with_reducible repeat (first | apply Kd.R_alloc | apply Kd.R_drewN | apply Kd.R_drew)); exact HO_15.out) hb); have n3_ := Aside0.mk (Kd.R_below (Kd.R_elderB (by (with_reducible repeat (first | apply Kd.R_alloc | apply Kd.R_drewN | apply Kd.R_drew)); exact HO_55.out) gb177 (Nat.le_of_eq hg.symm)) hb); have n4_ := Aside0.mk (Kd.R_below (by (with_reducible repeat (first | apply Kd.R_alloc | apply Kd.R_drewN | apply Kd.R_drew)); exact HO_169003.out) hb); have n5_ := Aside0.mk (Kd.R_below (by (with_reducible repeat (first | apply Kd.R_alloc | apply Kd.R_drewN | apply Kd.R_drew)); exact HO_169004.out) hb); have n6_ := Aside0.mk (blk_below (g := gb168) (o := .cells #[.int .i64 t157, .int .i64 t158, .int .i64 t159, .slice Ao15 t160.length co15, .slice Ao16 t163.length co16, .bool t166] 42 (0, 0)) (by (with_reducible repeat (first | refine blk_drewN ?_ _ | refine blk_drew ?_ | refine blk_alloc ?_ _)); exact BK168.out) hb); have n7_ := Aside0.mk (below_step (by repeat (first | (with_reducible first | exact HB.out | apply below_alloc | apply pw_below_drewN | apply below_drew1 | refine below_set ?_ GE168.out) | exact HB.out)) hb); have n8_ := Aside0.mk (hbox); have n9_ := Aside0.mk ((by rw [hg]; exact (below_size (by repeat (first | (with_reducible first | exact HB.out | apply below_alloc | apply pw_below_drewN | apply below_drew1 | refine below_set ?_ GE168.out) | exact HB.out))) : w.heap.size ≤ gb177)); have n10_ := Aside0.mk ((by rw [hg]; exact (below_size (by repeat (first | (with_reducible first | exact HB.out | apply below_alloc | apply pw_below_drewN | apply below_drew1 | refine below_set ?_ GE168.out) | exact HB.out))) : w.heap.size ≤ gb177)); have n11_ := Aside0.mk ((by rw [hg]; exact Nat.ne_of_lt (blk_lt (g := gb168) (o := .cells #[.int .i64 t157, .int .i64 t158, .int .i64 t159, .slice Ao15 t160.length co15, .slice Ao16 t163.length co16, .bool t166] 42 (0, 0)) (by (with_reducible repeat (first | refine blk_drewN ?_ _ | refine blk_drew ?_ | refine blk_alloc ?_ _)); exact BK168.out)) : gb168 ≠ gb177)); have n12_ := Aside0.mk ((by rw [hg]; exact Nat.ne_of_gt (blk_lt (g := gb168) (o := .cells #[.int .i64 t157, .int .i64 t158, .int .i64 t159, .slice Ao15 t160.length co15, .slice Ao16 t163.length co16, .bool t166] 42 (0, 0)) (by (with_reducible repeat (first | refine blk_drewN ?_ _ | refine blk_drew ?_ | refine blk_alloc ?_ _)); exact BK168.out)) : gb177 ≠ gb168)); clear HO_9; clear HO_12; clear HO_15; clear HO_55; clear HO_169003; clear HO_169004; clear BK168; clear HB; have HO_9 := n0_; have HO_12 := n1_; have HO_15 := n2_; have HO_55 := n3_; have HO_169003 := n4_; have HO_169004 := n5_; have BK168 := n6_; have HB := n7_; have BK177 := n8_; have GW177 := n9_; have GE177 := n10_; have NB168_177 := n11_; have NB177_168 := n12_; clear n0_ n1_ n2_ n3_ n4_ n5_ n6_ n7_ n8_ n9_ n10_ n11_ n12_; clear hb hbox hg; have hnb38 := NB177_168.out; have hnc38 := NB168_177.out; have hcz39_0 : w37.cell? ⟨gb177, 0, none⟩ = some (.int .i64 0) := (blk_cell BK177.out 0).trans rfl; have hcz39_1 : w37.cell? ⟨gb177, 1, none⟩ = some (.int .i64 0) := (blk_cell BK177.out 1).trans rfl; have hcz39_2 : w37.cell? ⟨gb177, 2, none⟩ = some (.int .i64 0) := (blk_cell BK177.out 2).trans rfl; have hfz39_0 := blk_frozen BK177.out 0; have hfz39_1 := blk_frozen BK177.out 1; have hfz39_2 := blk_frozen BK177.out 2))
                              (try simp only [Act.put, List.setIfInBounds_toArray, List.set_cons_zero, List.set_cons_succ])
                              go_cut [70] (fun v70 wc => ∃ (kq : Nat) (x70_35 : Bool), v70 = .bool x70_35 ∧ Aside0 (hornbeamlaw21_SchedOnce.j2 kq (ji26) (wrap64 (1 + (wrap64 (Int.tmod a1 64)))) t154 x12_2 x14_2 x15_2 x16_2 x57_2 t154 (t154.length : Int) x57_2 x70_35 ((rd_T52 t154 x57_2).f0) ((rd_T52 t154 x57_2).f1) ((rd_T52 t154 x57_2).f2) = some r) ∧ Aside0 (kq ≤ k2) ∧ Aside0 (Kd.R k52 52 wc w.heap.size (fun k_ => k_ ≠ gb177) (.slice (some ad176) t154.length co32) t154) ∧ Aside0 (Kd.R (Kd.int .i64) 3 wc w.heap.size (fun k_ => some k_ ≠ (v174 : Value).ownBlock ∧ some k_ ≠ ((.slice Ao15 t160.length co15) : Value).ownBlock) (.slice Ao19 x12_2.length co19) x12_2) ∧ Aside0 (Kd.R (Kd.int .i64) 3 wc w.heap.size (fun k_ => some k_ ≠ ((.slice Ao19 x12_2.length co19) : Value).ownBlock ∧ some k_ ≠ ((.slice Ao15 t160.length co15) : Value).ownBlock) v174 x15_2) ∧ Aside0 (Kd.R k52 52 wc w.heap.size (fun k_ => k_ ≠ gb177) (.slice (some ad176) t154.length co32) t154) ∧ Aside0 (Kd.R (Kd.int .i64) 3 wc w.heap.size (fun k_ => some k_ ≠ ((.slice Ao19 x12_2.length co19) : Value).ownBlock ∧ some k_ ≠ (v174 : Value).ownBlock) (.slice Ao15 t160.length co15) t160) ∧ Aside0 (Kd.R Kd.bool 4 wc w.heap.size (fun _ => True) (.slice Ao16 t163.length co16) t163) ∧ Aside0 (wc.heap[gb168]? = some (.cells #[.int .i64 t157, .int .i64 t158, .int .i64 t159, (.slice Ao15 t160.length co15), (.slice Ao16 t163.length co16), .bool t166] 42 (0, 0))) ∧ Aside0 (wc.heap[gb177]? = some (.cells #[.int .i64 ((rd_T52 t154 x57_2).f0), .int .i64 ((rd_T52 t154 x57_2).f1), .int .i64 ((rd_T52 t154 x57_2).f2)] 52 (0, 0))) ∧ Aside0 (Below w.heap.size w wc))
                              case first =>
                                have H := HC36.out
                                clear HC36
                                by_cases c40 : ((rd_T52 t154 x57_2).f0) < 0
                                · rw [if_pos c40] at H
                                  have c40b0 : decide (((rd_T52 t154 x57_2).f0) < 0) = true := decide_eq_true c40
                                  clear c40
                                  (first | rw [c40b0] | (simp only [i64_w, i32_w]; rw [c40b0]) | skip)
                                  have H' := Aside0.mk H
                                  clear H
                                  have hnb41 := NB177_168.out
                                  have hnc41 := NB168_177.out
                                  have hcz42_0 : w37.cell? ⟨gb177, 0, none⟩ = some (.int .i64 0) := (blk_cell BK177.out 0).trans rfl
                                  have hcz42_1 : w37.cell? ⟨gb177, 1, none⟩ = some (.int .i64 0) := (blk_cell BK177.out 1).trans rfl
                                  have hcz42_2 : w37.cell? ⟨gb177, 2, none⟩ = some (.int .i64 0) := (blk_cell BK177.out 2).trans rfl
                                  have hfz42_0 := blk_frozen BK177.out 0
                                  have hfz42_1 := blk_frozen BK177.out 1
                                  have hfz42_2 := blk_frozen BK177.out 2
                                  go_wp2
                                  go_meet
                                  case rel => exact ⟨_, (true), (by first | rfl | (simp; done) | (simp [*]; done)), H', ⟨by have := HK1.out; have := HK2.out; first | omega | exact Nat.le_refl _⟩, ⟨by (try simp only [hl12_1]); (try simp only [hl12_2]); (with_reducible repeat (first | apply Kd.R_alloc | apply Kd.R_drewN | apply Kd.R_drew)); exact Kd.R_mono (Kd.R_far (p := ⟨gb177, 2, none⟩) (Kd.R_far (p := ⟨gb177, 1, none⟩) (Kd.R_far (p := ⟨gb177, 0, none⟩) (Kd.R_mono HO_9.out (fun k_ hk => (⟨hk, hk.2⟩ : _ ∧ k_ ≠ gb177))) (fun _ hk => hk.2) (.int .i64 ((rd_T52 t154 x57_2).f0))) (fun _ hk => hk.2) (.int .i64 ((rd_T52 t154 x57_2).f1))) (fun _ hk => hk.2) (.int .i64 ((rd_T52 t154 x57_2).f2))) (fun _ hk => hk.1.2)⟩, ⟨by (try simp only [hl12_1]); (try simp only [hl12_2]); (with_reducible repeat (first | apply Kd.R_alloc | apply Kd.R_drewN | apply Kd.R_drew)); exact Kd.R_mono (Kd.R_far (p := ⟨gb177, 2, none⟩) (Kd.R_far (p := ⟨gb177, 1, none⟩) (Kd.R_far (p := ⟨gb177, 0, none⟩) (Kd.R_types HO_12.out BK177.out (by decide)) (fun _ hk => hk.2) (.int .i64 ((rd_T52 t154 x57_2).f0))) (fun _ hk => hk.2) (.int .i64 ((rd_T52 t154 x57_2).f1))) (fun _ hk => hk.2) (.int .i64 ((rd_T52 t154 x57_2).f2))) (fun _ hk => ⟨hk.1.1, hk.1.2⟩)⟩, ⟨by (try simp only [hl12_1]); (try simp only [hl12_2]); (with_reducible repeat (first | apply Kd.R_alloc | apply Kd.R_drewN | apply Kd.R_drew)); exact Kd.R_mono (Kd.R_far (p := ⟨gb177, 2, none⟩) (Kd.R_far (p := ⟨gb177, 1, none⟩) (Kd.R_far (p := ⟨gb177, 0, none⟩) (Kd.R_types HO_15.out BK177.out (by decide)) (fun _ hk => hk.2) (.int .i64 ((rd_T52 t154 x57_2).f0))) (fun _ hk => hk.2) (.int .i64 ((rd_T52 t154 x57_2).f1))) (fun _ hk => hk.2) (.int .i64 ((rd_T52 t154 x57_2).f2))) (fun _ hk => ⟨hk.1.1, hk.1.2⟩)⟩, ⟨by (try simp only [hl12_1]); (try simp only [hl12_2]); (with_reducible repeat (first | apply Kd.R_alloc | apply Kd.R_drewN | apply Kd.R_drew)); exact Kd.R_mono (Kd.R_far (p := ⟨gb177, 2, none⟩) (Kd.R_far (p := ⟨gb177, 1, none⟩) (Kd.R_far (p := ⟨gb177, 0, none⟩) (Kd.R_mono HO_55.out (fun k_ hk => (⟨hk, hk.2⟩ : _ ∧ k_ ≠ gb177))) (fun _ hk => hk.2) (.int .i64 ((rd_T52 t154 x57_2).f0))) (fun _ hk => hk.2) (.int .i64 ((rd_T52 t154 x57_2).f1))) (fun _ hk => hk.2) (.int .i64 ((rd_T52 t154 x57_2).f2))) (fun _ hk => hk.1.2)⟩, ⟨by (try simp only [hl12_1]); (try simp only [hl12_2]); (with_reducible repeat (first | apply Kd.R_alloc | apply Kd.R_drewN | apply Kd.R_drew)); exact Kd.R_mono (Kd.R_far (p := ⟨gb177, 2, none⟩) (Kd.R_far (p := ⟨gb177, 1, none⟩) (Kd.R_far (p := ⟨gb177, 0, none⟩) (Kd.R_types HO_169003.out BK177.out (by decide)) (fun _ hk => hk.2) (.int .i64 ((rd_T52 t154 x57_2).f0))) (fun _ hk => hk.2) (.int .i64 ((rd_T52 t154 x57_2).f1))) (fun _ hk => hk.2) (.int .i64 ((rd_T52 t154 x57_2).f2))) (fun _ hk => ⟨hk.1.1, hk.1.2⟩)⟩, ⟨by (try simp only [hl12_1]); (try simp only [hl12_2]); (with_reducible repeat (first | apply Kd.R_alloc | apply Kd.R_drewN | apply Kd.R_drew)); exact Kd.R_mono (Kd.R_far (p := ⟨gb177, 2, none⟩) (Kd.R_far (p := ⟨gb177, 1, none⟩) (Kd.R_far (p := ⟨gb177, 0, none⟩) (Kd.R_types HO_169004.out BK177.out (by decide)) (fun _ hk => hk.2) (.int .i64 ((rd_T52 t154 x57_2).f0))) (fun _ hk => hk.2) (.int .i64 ((rd_T52 t154 x57_2).f1))) (fun _ hk => hk.2) (.int .i64 ((rd_T52 t154 x57_2).f2))) (fun _ hk => trivial)⟩, ⟨by (try simp only [hl12_1]); (try simp only [hl12_2]); (with_reducible repeat (first | refine blk_drewN ?_ _ | refine blk_drew ?_ | refine blk_alloc ?_ _)); refine blk_far ?_ NB168_177.out _; (with_reducible repeat (first | refine blk_drewN ?_ _ | refine blk_drew ?_ | refine blk_alloc ?_ _)); refine blk_far ?_ NB168_177.out _; (with_reducible repeat (first | refine blk_drewN ?_ _ | refine blk_drew ?_ | refine blk_alloc ?_ _)); refine blk_far ?_ NB168_177.out _; (with_reducible repeat (first | refine blk_drewN ?_ _ | refine blk_drew ?_ | refine blk_alloc ?_ _)); exact BK168.out⟩, ⟨by (try simp only [hl12_1]); (try simp only [hl12_2]); (with_reducible repeat (first | refine blk_drewN ?_ _ | refine blk_drew ?_ | refine blk_alloc ?_ _)); refine blk_put (cs := #[.int .i64 ((rd_T52 t154 x57_2).f0), .int .i64 ((rd_T52 t154 x57_2).f1), .int .i64 0]) ?_ 2 _ rfl; (with_reducible repeat (first | refine blk_drewN ?_ _ | refine blk_drew ?_ | refine blk_alloc ?_ _)); refine blk_put (cs := #[.int .i64 ((rd_T52 t154 x57_2).f0), .int .i64 0, .int .i64 0]) ?_ 1 _ rfl; (with_reducible repeat (first | refine blk_drewN ?_ _ | refine blk_drew ?_ | refine blk_alloc ?_ _)); refine blk_put (cs := #[.int .i64 0, .int .i64 0, .int .i64 0]) ?_ 0 _ rfl; (with_reducible repeat (first | refine blk_drewN ?_ _ | refine blk_drew ?_ | refine blk_alloc ?_ _)); exact BK177.out⟩, ⟨by repeat (first | (with_reducible first | exact HB.out | apply below_alloc | apply pw_below_drewN | apply below_drew1 | refine below_set ?_ GE168.out | refine below_set ?_ GE177.out) | exact HB.out)⟩⟩
                                · rw [if_neg c40] at H
                                  have c40b0 : decide (((rd_T52 t154 x57_2).f0) < 0) = false := decide_eq_false c40
                                  clear c40
                                  (first | rw [c40b0] | (simp only [i64_w, i32_w]; rw [c40b0]) | skip)
                                  have H' := Aside0.mk H
                                  clear H
                                  have hnb43 := NB177_168.out
                                  have hnc43 := NB168_177.out
                                  have hcz44_0 : w37.cell? ⟨gb177, 0, none⟩ = some (.int .i64 0) := (blk_cell BK177.out 0).trans rfl
                                  have hcz44_1 : w37.cell? ⟨gb177, 1, none⟩ = some (.int .i64 0) := (blk_cell BK177.out 1).trans rfl
                                  have hcz44_2 : w37.cell? ⟨gb177, 2, none⟩ = some (.int .i64 0) := (blk_cell BK177.out 2).trans rfl
                                  have hfz44_0 := blk_frozen BK177.out 0
                                  have hfz44_1 := blk_frozen BK177.out 1
                                  have hfz44_2 := blk_frozen BK177.out 2
                                  go_wp2
                                  go_meet
                                  case rel => exact ⟨_, (decide (((rd_T52 t154 x57_2).f0) > (wrap64 (1 + (wrap64 (Int.tmod a1 64)))))), (by first | rfl | (simp; done) | (simp [*]; done)), H', ⟨by have := HK1.out; have := HK2.out; first | omega | exact Nat.le_refl _⟩, ⟨by (try simp only [hl12_1]); (try simp only [hl12_2]); (with_reducible repeat (first | apply Kd.R_alloc | apply Kd.R_drewN | apply Kd.R_drew)); exact Kd.R_mono (Kd.R_far (p := ⟨gb177, 2, none⟩) (Kd.R_far (p := ⟨gb177, 1, none⟩) (Kd.R_far (p := ⟨gb177, 0, none⟩) (Kd.R_mono HO_9.out (fun k_ hk => (⟨hk, hk.2⟩ : _ ∧ k_ ≠ gb177))) (fun _ hk => hk.2) (.int .i64 ((rd_T52 t154 x57_2).f0))) (fun _ hk => hk.2) (.int .i64 ((rd_T52 t154 x57_2).f1))) (fun _ hk => hk.2) (.int .i64 ((rd_T52 t154 x57_2).f2))) (fun _ hk => hk.1.2)⟩, ⟨by (try simp only [hl12_1]); (try simp only [hl12_2]); (with_reducible repeat (first | apply Kd.R_alloc | apply Kd.R_drewN | apply Kd.R_drew)); exact Kd.R_mono (Kd.R_far (p := ⟨gb177, 2, none⟩) (Kd.R_far (p := ⟨gb177, 1, none⟩) (Kd.R_far (p := ⟨gb177, 0, none⟩) (Kd.R_types HO_12.out BK177.out (by decide)) (fun _ hk => hk.2) (.int .i64 ((rd_T52 t154 x57_2).f0))) (fun _ hk => hk.2) (.int .i64 ((rd_T52 t154 x57_2).f1))) (fun _ hk => hk.2) (.int .i64 ((rd_T52 t154 x57_2).f2))) (fun _ hk => ⟨hk.1.1, hk.1.2⟩)⟩, ⟨by (try simp only [hl12_1]); (try simp only [hl12_2]); (with_reducible repeat (first | apply Kd.R_alloc | apply Kd.R_drewN | apply Kd.R_drew)); exact Kd.R_mono (Kd.R_far (p := ⟨gb177, 2, none⟩) (Kd.R_far (p := ⟨gb177, 1, none⟩) (Kd.R_far (p := ⟨gb177, 0, none⟩) (Kd.R_types HO_15.out BK177.out (by decide)) (fun _ hk => hk.2) (.int .i64 ((rd_T52 t154 x57_2).f0))) (fun _ hk => hk.2) (.int .i64 ((rd_T52 t154 x57_2).f1))) (fun _ hk => hk.2) (.int .i64 ((rd_T52 t154 x57_2).f2))) (fun _ hk => ⟨hk.1.1, hk.1.2⟩)⟩, ⟨by (try simp only [hl12_1]); (try simp only [hl12_2]); (with_reducible repeat (first | apply Kd.R_alloc | apply Kd.R_drewN | apply Kd.R_drew)); exact Kd.R_mono (Kd.R_far (p := ⟨gb177, 2, none⟩) (Kd.R_far (p := ⟨gb177, 1, none⟩) (Kd.R_far (p := ⟨gb177, 0, none⟩) (Kd.R_mono HO_55.out (fun k_ hk => (⟨hk, hk.2⟩ : _ ∧ k_ ≠ gb177))) (fun _ hk => hk.2) (.int .i64 ((rd_T52 t154 x57_2).f0))) (fun _ hk => hk.2) (.int .i64 ((rd_T52 t154 x57_2).f1))) (fun _ hk => hk.2) (.int .i64 ((rd_T52 t154 x57_2).f2))) (fun _ hk => hk.1.2)⟩, ⟨by (try simp only [hl12_1]); (try simp only [hl12_2]); (with_reducible repeat (first | apply Kd.R_alloc | apply Kd.R_drewN | apply Kd.R_drew)); exact Kd.R_mono (Kd.R_far (p := ⟨gb177, 2, none⟩) (Kd.R_far (p := ⟨gb177, 1, none⟩) (Kd.R_far (p := ⟨gb177, 0, none⟩) (Kd.R_types HO_169003.out BK177.out (by decide)) (fun _ hk => hk.2) (.int .i64 ((rd_T52 t154 x57_2).f0))) (fun _ hk => hk.2) (.int .i64 ((rd_T52 t154 x57_2).f1))) (fun _ hk => hk.2) (.int .i64 ((rd_T52 t154 x57_2).f2))) (fun _ hk => ⟨hk.1.1, hk.1.2⟩)⟩, ⟨by (try simp only [hl12_1]); (try simp only [hl12_2]); (with_reducible repeat (first | apply Kd.R_alloc | apply Kd.R_drewN | apply Kd.R_drew)); exact Kd.R_mono (Kd.R_far (p := ⟨gb177, 2, none⟩) (Kd.R_far (p := ⟨gb177, 1, none⟩) (Kd.R_far (p := ⟨gb177, 0, none⟩) (Kd.R_types HO_169004.out BK177.out (by decide)) (fun _ hk => hk.2) (.int .i64 ((rd_T52 t154 x57_2).f0))) (fun _ hk => hk.2) (.int .i64 ((rd_T52 t154 x57_2).f1))) (fun _ hk => hk.2) (.int .i64 ((rd_T52 t154 x57_2).f2))) (fun _ hk => trivial)⟩, ⟨by (try simp only [hl12_1]); (try simp only [hl12_2]); (with_reducible repeat (first | refine blk_drewN ?_ _ | refine blk_drew ?_ | refine blk_alloc ?_ _)); refine blk_far ?_ NB168_177.out _; (with_reducible repeat (first | refine blk_drewN ?_ _ | refine blk_drew ?_ | refine blk_alloc ?_ _)); refine blk_far ?_ NB168_177.out _; (with_reducible repeat (first | refine blk_drewN ?_ _ | refine blk_drew ?_ | refine blk_alloc ?_ _)); refine blk_far ?_ NB168_177.out _; (with_reducible repeat (first | refine blk_drewN ?_ _ | refine blk_drew ?_ | refine blk_alloc ?_ _)); exact BK168.out⟩, ⟨by (try simp only [hl12_1]); (try simp only [hl12_2]); (with_reducible repeat (first | refine blk_drewN ?_ _ | refine blk_drew ?_ | refine blk_alloc ?_ _)); refine blk_put (cs := #[.int .i64 ((rd_T52 t154 x57_2).f0), .int .i64 ((rd_T52 t154 x57_2).f1), .int .i64 0]) ?_ 2 _ rfl; (with_reducible repeat (first | refine blk_drewN ?_ _ | refine blk_drew ?_ | refine blk_alloc ?_ _)); refine blk_put (cs := #[.int .i64 ((rd_T52 t154 x57_2).f0), .int .i64 0, .int .i64 0]) ?_ 1 _ rfl; (with_reducible repeat (first | refine blk_drewN ?_ _ | refine blk_drew ?_ | refine blk_alloc ?_ _)); refine blk_put (cs := #[.int .i64 0, .int .i64 0, .int .i64 0]) ?_ 0 _ rfl; (with_reducible repeat (first | refine blk_drewN ?_ _ | refine blk_drew ?_ | refine blk_alloc ?_ _)); exact BK177.out⟩, ⟨by repeat (first | (with_reducible first | exact HB.out | apply below_alloc | apply pw_below_drewN | apply below_drew1 | refine below_set ?_ GE168.out | refine below_set ?_ GE177.out) | exact HB.out)⟩⟩
                              case rest =>
                                clear HC36
                                try clear c1
                                try clear p1
                                try clear q1
                                try clear hx1
                                try clear c2
                                try clear p2
                                try clear q2
                                try clear hx2
                                try clear c3
                                try clear c4
                                try clear c4b0
                                try clear c4b1
                                try clear c6
                                try clear p6
                                try clear c8
                                try clear c8b0
                                try clear c8b1
                                try clear c10
                                try clear c10b0
                                try clear c10b1
                                try clear c11
                                try clear c11b0
                                try clear c11b1
                                try clear p17
                                try clear q17
                                try clear hx17
                                try clear c20
                                try clear c20b0
                                try clear c21
                                try clear c21b0
                                try clear c22
                                try clear c22b0
                                try clear p23
                                try clear q23
                                try clear hx23
                                try clear hf23
                                try clear c27
                                try clear c27b0
                                try clear c27b1
                                try clear c28
                                try clear c28b0
                                try clear c28b1
                                try clear c33
                                try clear c33b0
                                try clear c34
                                try clear c34b0
                                try clear c35
                                try clear c35b0
                                try clear c38
                                try clear c40
                                try clear c40b0
                                try clear c41
                                try clear c43
                                try clear hcz14_0
                                try clear hcz14_1
                                try clear hcz14_2
                                try clear hcz14_3
                                try clear hcz14_4
                                try clear hcz14_5
                                try clear hcz39_0
                                try clear hcz39_1
                                try clear hcz39_2
                                try clear hcz42_0
                                try clear hcz42_1
                                try clear hcz42_2
                                try clear hcz44_0
                                try clear hcz44_1
                                try clear hcz44_2
                                try clear hfz14_0
                                try clear hfz14_1
                                try clear hfz14_2
                                try clear hfz14_3
                                try clear hfz14_4
                                try clear hfz14_5
                                try clear hfz39_0
                                try clear hfz39_1
                                try clear hfz39_2
                                try clear hfz42_0
                                try clear hfz42_1
                                try clear hfz42_2
                                try clear hfz44_0
                                try clear hfz44_1
                                try clear hfz44_2
                                try clear hx176_0
                                try clear hx176_1
                                try clear hx176_2
                                try clear hx23_0
                                try clear p176
                                try clear p2
                                try clear p23
                                try clear p6
                                try clear q176
                                try clear q2
                                try clear q23
                                obtain ⟨kq, x70_35, rfl, HA, HJ35, HO_9, HO_12, HO_15, HO_55, HO_169003, HO_169004, BK168, BK177, HB⟩ := hcut
                                cases kq with
                                | zero => exact absurd HA.out (by simp [hornbeamlaw21_SchedOnce.j2])
                                | succ kj35 =>
                                  have H := HA.out
                                  clear HA
                                  simp only [hornbeamlaw21_SchedOnce.j2] at H
                                  by_cases c45 : x70_35 = true
                                  · subst c45
                                    have H1 : (some false) = some r := by rw [if_pos rfl] at H; exact H
                                    clear H
                                    have H := H1
                                    clear H1
                                    exact absurd (Option.some.inj H) (by rw [HR_.out]; decide)
                                  · replace c45 := Bool.eq_false_iff.mpr c45
                                    subst c45
                                    have H1 : (if ((rd_T52 t154 x57_2).f1) = 1 then (if ((rd_T52 t154 x57_2).f0) = 0 then (some false) else (if 0 ≤ ((rd_T52 t154 x57_2).f0) then (if ((rd_T52 t154 x57_2).f0) < (x12_2.length : Int) then (if (rd x12_2 ((rd_T52 t154 x57_2).f0)) = (-1) then (if ((rd_T52 t154 x57_2).f2) = x14_2 then (if ((rd_T52 t154 x57_2).f2) ≥ (ji26) then (some false) else (hornbeamlaw21_SchedOnce.l1 kj35 (ji26) (wrap64 (1 + (wrap64 (Int.tmod a1 64)))) t154 (x12_2.set (((rd_T52 t154 x57_2).f0) : Int).toNat ((rd_T52 t154 x57_2).f2)) (wrap64 (x14_2 + 1)) x15_2 x16_2 t154 (t154.length : Int) (wrap64 (x57_2 + 1)))) else (some false)) else (some false)) else (none)) else (none))) else (if ((rd_T52 t154 x57_2).f1) = 2 then (if ((rd_T52 t154 x57_2).f0) = 0 then (some false) else (if ((rd_T52 t154 x57_2).f2) < 0 then (some false) else (if ((rd_T52 t154 x57_2).f2) ≥ (ji26) then (some false) else (if 0 ≤ ((rd_T52 t154 x57_2).f0) then (if ((rd_T52 t154 x57_2).f0) < (x12_2.length : Int) then (if (rd x12_2 ((rd_T52 t154 x57_2).f0)) = ((rd_T52 t154 x57_2).f2) then (if 0 ≤ ((rd_T52 t154 x57_2).f2) then (if ((rd_T52 t154 x57_2).f2) < (x15_2.length : Int) then (hornbeamlaw21_SchedOnce.l1 kj35 (ji26) (wrap64 (1 + (wrap64 (Int.tmod a1 64)))) t154 (x12_2.set (((rd_T52 t154 x57_2).f0) : Int).toNat (-1)) x14_2 (x15_2.set (((rd_T52 t154 x57_2).f2) : Int).toNat (wrap64 ((rd x15_2 ((rd_T52 t154 x57_2).f2)) + 1))) x16_2 t154 (t154.length : Int) (wrap64 (x57_2 + 1))) else (none)) else (none)) else (some false)) else (none)) else (none))))) else (if ((rd_T52 t154 x57_2).f1) = 3 then (if ((rd_T52 t154 x57_2).f0) = 0 then (some false) else (if 0 ≤ ((rd_T52 t154 x57_2).f0) then (if ((rd_T52 t154 x57_2).f0) < (x12_2.length : Int) then (if (rd x12_2 ((rd_T52 t154 x57_2).f0)) = (-1) then (if x14_2 = (ji26) then (hornbeamlaw21_SchedOnce.l1 kj35 (ji26) (wrap64 (1 + (wrap64 (Int.tmod a1 64)))) t154 (x12_2.set (((rd_T52 t154 x57_2).f0) : Int).toNat (-2)) x14_2 x15_2 (wrap64 (x16_2 + 1)) t154 (t154.length : Int) (wrap64 (x57_2 + 1))) else (some false)) else (some false)) else (none)) else (none))) else (if ((rd_T52 t154 x57_2).f1) = 4 then (if ((rd_T52 t154 x57_2).f0) = 0 then (if x57_2 = (wrap64 ((t154.length : Int) - 1)) then (if x16_2 = (wrap64 (1 + (wrap64 (Int.tmod a1 64)))) then (hornbeamlaw21_SchedOnce.l1 kj35 (ji26) (wrap64 (1 + (wrap64 (Int.tmod a1 64)))) t154 x12_2 x14_2 x15_2 x16_2 t154 (t154.length : Int) (wrap64 (x57_2 + 1))) else (some false)) else (some false)) else (some false)) else (some false))))) = some r := by rw [if_neg (show ¬ (false = true) by decide)] at H; exact H
                                    clear H
                                    have H := H1
                                    clear H1
                                    by_cases c46 : ((rd_T52 t154 x57_2).f1) = 1
                                    · rw [if_pos c46] at H
                                      have c46b0 : (((rd_T52 t154 x57_2).f1) == 1) = true := beq_iff_eq.mpr c46
                                      have c46b1 : (((rd_T52 t154 x57_2).f1) != 1) = false := bne_eq_false_iff_eq.mpr c46
                                      clear c46
                                      by_cases c47 : ((rd_T52 t154 x57_2).f0) = 0
                                      · rw [if_pos c47] at H
                                        have c47b0 : (((rd_T52 t154 x57_2).f0) == 0) = true := beq_iff_eq.mpr c47
                                        have c47b1 : (((rd_T52 t154 x57_2).f0) != 0) = false := bne_eq_false_iff_eq.mpr c47
                                        clear c47
                                        exact absurd (Option.some.inj H) (by rw [HR_.out]; decide)
                                      · rw [if_neg c47] at H
                                        have c47b0 : (((rd_T52 t154 x57_2).f0) == 0) = false := beq_eq_false_iff_ne.mpr c47
                                        have c47b1 : (((rd_T52 t154 x57_2).f0) != 0) = true := bne_iff_ne.mpr c47
                                        by_cases c48 : 0 ≤ ((rd_T52 t154 x57_2).f0)
                                        · rw [if_pos c48] at H
                                          have c48b0 : decide (0 ≤ ((rd_T52 t154 x57_2).f0)) = true := decide_eq_true c48
                                          clear c48
                                          by_cases c49 : ((rd_T52 t154 x57_2).f0) < (x12_2.length : Int)
                                          · rw [if_pos c49] at H
                                            have c49b0 : decide (((rd_T52 t154 x57_2).f0) < (x12_2.length : Int)) = true := decide_eq_true c49
                                            clear c49
                                            by_cases c50 : (rd x12_2 ((rd_T52 t154 x57_2).f0)) = (-1)
                                            · rw [if_pos c50] at H
                                              have c50b0 : ((rd x12_2 ((rd_T52 t154 x57_2).f0)) == (-1)) = true := beq_iff_eq.mpr c50
                                              have c50b1 : ((rd x12_2 ((rd_T52 t154 x57_2).f0)) != (-1)) = false := bne_eq_false_iff_eq.mpr c50
                                              clear c50
                                              by_cases c51 : ((rd_T52 t154 x57_2).f2) = x14_2
                                              · rw [if_pos c51] at H
                                                have c51b0 : (((rd_T52 t154 x57_2).f2) == x14_2) = true := beq_iff_eq.mpr c51
                                                have c51b1 : (((rd_T52 t154 x57_2).f2) != x14_2) = false := bne_eq_false_iff_eq.mpr c51
                                                clear c51
                                                by_cases c52 : ((rd_T52 t154 x57_2).f2) ≥ (ji26)
                                                · rw [if_pos c52] at H
                                                  have c52b0 : decide ((ji26) ≤ ((rd_T52 t154 x57_2).f2)) = true := decide_eq_true c52
                                                  clear c52
                                                  exact absurd (Option.some.inj H) (by rw [HR_.out]; decide)
                                                · rw [if_neg c52] at H
                                                  have c52b0 : decide ((ji26) ≤ ((rd_T52 t154 x57_2).f2)) = false := decide_eq_false c52
                                                  clear c52
                                                  obtain ⟨y179, hy179⟩ : ∃ y_ : List Int, y_ = (x12_2.set (((rd_T52 t154 x57_2).f0) : Int).toNat ((rd_T52 t154 x57_2).f2)) := ⟨_, rfl⟩
                                                  replace H : (hornbeamlaw21_SchedOnce.l1 kj35 (ji26) (wrap64 (1 + (wrap64 (Int.tmod a1 64)))) t154 y179 (wrap64 (x14_2 + 1)) x15_2 x16_2 t154 (t154.length : Int) (wrap64 (x57_2 + 1))) = some r := by first | (rw [hy179]; with_reducible exact H) | (have H2_ := (Option.bind_some _ _).symm.trans H; rw [hy179]; with_reducible exact H2_) | (have H2_ := (Option.bind_some _ _).symm.trans H; with_reducible exact H2_) | with_reducible exact H | (rw [hy179]; exact H) | exact H
                                                  have Ny179 := Aside0.mk hy179
                                                  clear hy179
                                                  have H' := Aside0.mk H
                                                  clear H
                                                  have hnb54 := NB177_168.out
                                                  have hnc54 := NB168_177.out
                                                  have hcz55_0 : wc.cell? ⟨gb177, 0, none⟩ = some (.int .i64 ((rd_T52 t154 x57_2).f0)) := (blk_cell BK177.out 0).trans rfl
                                                  have hcz55_1 : wc.cell? ⟨gb177, 1, none⟩ = some (.int .i64 ((rd_T52 t154 x57_2).f1)) := (blk_cell BK177.out 1).trans rfl
                                                  have hcz55_2 : wc.cell? ⟨gb177, 2, none⟩ = some (.int .i64 ((rd_T52 t154 x57_2).f2)) := (blk_cell BK177.out 2).trans rfl
                                                  have hfz55_0 := blk_frozen BK177.out 0
                                                  have hfz55_1 := blk_frozen BK177.out 1
                                                  have hfz55_2 := blk_frozen BK177.out 2
                                                  have p178 : 0 ≤ (((rd_T52 t154 x57_2).f0) : Int) := of_decide_eq_true (by first | (with_reducible assumption) | assumption)
                                                  have q178 : ((rd_T52 t154 x57_2).f0) < (x12_2.length : Int) := of_decide_eq_true (by first | (with_reducible assumption) | assumption)
                                                  obtain ⟨ad178, e178, hx178_0⟩ := Kd.at_int (Kd.R_reads' HO_12.out).2.2 ((rd_T52 t154 x57_2).f0) p178 q178
                                                  cases e178
                                                  replace p178 := eq_true p178
                                                  replace q178 := eq_true q178
                                                  have p53 : 0 ≤ (((rd_T52 t154 x57_2).f0) : Int) := of_decide_eq_true (by first | (with_reducible assumption) | assumption)
                                                  have q53 : (((rd_T52 t154 x57_2).f0) : Int) < ((x12_2.length : Int) : Int) := of_decide_eq_true (by first | (with_reducible assumption) | assumption)
                                                  obtain ⟨go53, co53, eo53, gb53, gl53, cl53, HG53⟩ := Kd.R_form HO_12.out (by omega)
                                                  (first | cases eo53 | (injection eo53 with ea_ en_ ec_; (first | subst ea_ | (injection ea_ with ea_; subst ea_)); subst ec_; clear en_))
                                                  have GB53 := Aside0.mk gb53
                                                  have GG53 := Aside0.mk HG53
                                                  clear gb53 gl53 HG53
                                                  (first | simp only [add_plain] at hx178_0 | skip)
                                                  obtain ⟨hx53_0, hf53_0⟩ := Kd.R_celln 0 HO_12.out (((rd_T52 t154 x57_2).f0) : Int) p53 q53
                                                  replace p53 := eq_true p53
                                                  replace q53 := eq_true q53
                                                  have HP56 := Kd.R_putg HO_12.out (((rd_T52 t154 x57_2).f0) : Int) ((rd_T52 t154 x57_2).f2)
                                                  go_wp2_with (first | ((with_reducible refine gate_store (t := 3) (p := 103) rfl ?_); refine store_event (t := 3) (p := 103) (v := ?vo_w57) (w1 := (wc.setCell ⟨go53, (((rd_T52 t154 x57_2).f0) : Int).toNat, none⟩ (.int .i64 ((rd_T52 t154 x57_2).f2)))) ?hg ?ho ?hn ?hr ?_; (case ho => rfl); (case hg => rfl); (case hn => rfl); (case hr => first | (go_simp; done) | (go_simp; rfl)); intro w57 hw; have hg : wc.grownBy w57 (some go53) := (by rw [hw]; exact HP56.2); have hp_ : Kd.R (Kd.int .i64) 3 w57 w.heap.size (fun k_ => some k_ ≠ (v174 : Value).ownBlock ∧ some k_ ≠ (.slice Ao15 t160.length co15 : Value).ownBlock) (.slice (some ⟨go53, 0, none⟩) x12_2.length co19) y179 := (by rw [hw, Ny179.out]; exact HP56.1); clear HP56; have n0_ := Aside0.mk (Kd.R_over' (v := (.slice (some ⟨go53, 0, none⟩) x12_2.length co19)) (by (with_reducible repeat (first | apply Kd.R_alloc | apply Kd.R_drewN | apply Kd.R_drew)); exact HO_9.out) (Kd.R_typed HO_12.out) (by decide) hg); have n1_ := Aside0.mk (hp_); have n2_ := Aside0.mk (Kd.R_after (v := (.slice (some ⟨go53, 0, none⟩) x12_2.length co19)) (v1 := (.slice (some ⟨go53, 0, none⟩) x12_2.length co19)) (ok := (fun k_ => some k_ ≠ (.slice Ao15 t160.length co15 : Value).ownBlock)) (by (with_reducible repeat (first | apply Kd.R_alloc | apply Kd.R_drewN | apply Kd.R_drew)); exact Kd.R_mono HO_15.out (fun _ hk => ⟨hk.2, hk.1⟩)) hg (.inl rfl)); have n3_ := Aside0.mk (Kd.R_over' (v := (.slice (some ⟨go53, 0, none⟩) x12_2.length co19)) (by (with_reducible repeat (first | apply Kd.R_alloc | apply Kd.R_drewN | apply Kd.R_drew)); exact HO_55.out) (Kd.R_typed HO_12.out) (by decide) hg); have n4_ := Aside0.mk (Kd.R_after (v := (.slice (some ⟨go53, 0, none⟩) x12_2.length co19)) (v1 := (.slice (some ⟨go53, 0, none⟩) x12_2.length co19)) (ok := (fun k_ => some k_ ≠ (v174 : Value).ownBlock)) (by (with_reducible repeat (first | apply Kd.R_alloc | apply Kd.R_drewN | apply Kd.R_drew)); exact Kd.R_mono HO_169003.out (fun _ hk => ⟨hk.2, hk.1⟩)) hg (.inl rfl)); have n5_ := Aside0.mk (Kd.R_over' (v := (.slice (some ⟨go53, 0, none⟩) x12_2.length co19)) (by (with_reducible repeat (first | apply Kd.R_alloc | apply Kd.R_drewN | apply Kd.R_drew)); exact HO_169004.out) (Kd.R_typed HO_12.out) (by decide) hg); have n6_ := Aside0.mk (blk_grown (g := gb168) (o := .cells #[.int .i64 t157, .int .i64 t158, .int .i64 t159, .slice Ao15 t160.length co15, .slice Ao16 t163.length co16, .bool t166] 42 (0, 0)) (by (with_reducible repeat (first | refine blk_drewN ?_ _ | refine blk_drew ?_ | refine blk_alloc ?_ _)); exact BK168.out) hg (Kd.R_ne HO_12.out BK168.out (by decide))); have n7_ := Aside0.mk (blk_grown (g := gb177) (o := .cells #[.int .i64 ((rd_T52 t154 x57_2).f0), .int .i64 ((rd_T52 t154 x57_2).f1), .int .i64 ((rd_T52 t154 x57_2).f2)] 52 (0, 0)) (by (with_reducible repeat (first | refine blk_drewN ?_ _ | refine blk_drew ?_ | refine blk_alloc ?_ _)); exact BK177.out) hg (Kd.R_ne HO_12.out BK177.out (by decide))); have n8_ := Aside0.mk ((by rw [hw]; exact below_set (HB.out) GB53.out : Below w.heap.size w w57)); clear HO_9; clear HO_12; clear HO_15; clear HO_55; clear HO_169003; clear HO_169004; clear BK168; clear BK177; clear HB; have HO_9 := n0_; have HO_12 := n1_; have HO_15 := n2_; have HO_55 := n3_; have HO_169003 := n4_; have HO_169004 := n5_; have BK168 := n6_; have BK177 := n7_; have HB := n8_; clear n0_ n1_ n2_ n3_ n4_ n5_ n6_ n7_ n8_; clear hg hw hp_))
                                                  (try simp only [← hl12_2])
                                                  go_roundg kj35
                                                  case measure => have := HK1.out; have := HK2.out; have := HJ35.out; omega
                                                  case rel => exact ⟨(y179), (wrap64 (x14_2 + 1)), (x15_2), (x16_2), (wrap64 (x57_2 + 1)), (by first | rfl | (simp; done) | (simp [*]; done)), (by first | rfl | (simp; done) | (simp [*]; done)), (by first | rfl | (simp; done) | (simp [*]; done)), H', ⟨by have := HK1.out; have := HK2.out; have := HJ35.out; omega⟩, ⟨by (try simp only [hl12_1]); (try simp only [hl12_2]); (with_reducible repeat (first | apply Kd.R_alloc | apply Kd.R_drewN | apply Kd.R_drew)); exact Kd.R_mono HO_9.out (fun _ hk => trivial)⟩, ⟨by (try simp only [hl12_1]); (try simp only [hl12_2]); (with_reducible repeat (first | apply Kd.R_alloc | apply Kd.R_drewN | apply Kd.R_drew)); exact HO_12.out⟩, ⟨by (try simp only [hl12_1]); (try simp only [hl12_2]); (with_reducible repeat (first | apply Kd.R_alloc | apply Kd.R_drewN | apply Kd.R_drew)); exact Kd.R_mono HO_15.out (fun _ hk => ⟨hk.2, hk.1⟩)⟩, ⟨by (try simp only [hl12_1]); (try simp only [hl12_2]); (with_reducible repeat (first | apply Kd.R_alloc | apply Kd.R_drewN | apply Kd.R_drew)); exact Kd.R_mono HO_55.out (fun _ hk => trivial)⟩, ⟨by (try simp only [hl12_1]); (try simp only [hl12_2]); (with_reducible repeat (first | apply Kd.R_alloc | apply Kd.R_drewN | apply Kd.R_drew)); exact Kd.R_mono HO_169003.out (fun _ hk => ⟨hk.2, hk.1⟩)⟩, ⟨by (try simp only [hl12_1]); (try simp only [hl12_2]); (with_reducible repeat (first | apply Kd.R_alloc | apply Kd.R_drewN | apply Kd.R_drew)); exact HO_169004.out⟩, ⟨by (try simp only [hl12_1]); (try simp only [hl12_2]); (with_reducible repeat (first | refine blk_drewN ?_ _ | refine blk_drew ?_ | refine blk_alloc ?_ _)); exact BK168.out⟩, ⟨by repeat (first | (with_reducible first | exact HB.out | apply below_alloc | apply pw_below_drewN | apply below_drew1 | refine below_set ?_ GE168.out | refine below_set ?_ GE177.out) | exact HB.out)⟩⟩
                                              · rw [if_neg c51] at H
                                                have c51b0 : (((rd_T52 t154 x57_2).f2) == x14_2) = false := beq_eq_false_iff_ne.mpr c51
                                                have c51b1 : (((rd_T52 t154 x57_2).f2) != x14_2) = true := bne_iff_ne.mpr c51
                                                exact absurd (Option.some.inj H) (by rw [HR_.out]; decide)
                                            · rw [if_neg c50] at H
                                              have c50b0 : ((rd x12_2 ((rd_T52 t154 x57_2).f0)) == (-1)) = false := beq_eq_false_iff_ne.mpr c50
                                              have c50b1 : ((rd x12_2 ((rd_T52 t154 x57_2).f0)) != (-1)) = true := bne_iff_ne.mpr c50
                                              exact absurd (Option.some.inj H) (by rw [HR_.out]; decide)
                                          · rw [if_neg c49] at H
                                            exact absurd H (by simp)
                                        · rw [if_neg c48] at H
                                          exact absurd H (by simp)
                                    · rw [if_neg c46] at H
                                      have c46b0 : (((rd_T52 t154 x57_2).f1) == 1) = false := beq_eq_false_iff_ne.mpr c46
                                      have c46b1 : (((rd_T52 t154 x57_2).f1) != 1) = true := bne_iff_ne.mpr c46
                                      by_cases c58 : ((rd_T52 t154 x57_2).f1) = 2
                                      · rw [if_pos c58] at H
                                        have c58b0 : (((rd_T52 t154 x57_2).f1) == 2) = true := beq_iff_eq.mpr c58
                                        have c58b1 : (((rd_T52 t154 x57_2).f1) != 2) = false := bne_eq_false_iff_eq.mpr c58
                                        clear c58
                                        by_cases c59 : ((rd_T52 t154 x57_2).f0) = 0
                                        · rw [if_pos c59] at H
                                          have c59b0 : (((rd_T52 t154 x57_2).f0) == 0) = true := beq_iff_eq.mpr c59
                                          have c59b1 : (((rd_T52 t154 x57_2).f0) != 0) = false := bne_eq_false_iff_eq.mpr c59
                                          clear c59
                                          exact absurd (Option.some.inj H) (by rw [HR_.out]; decide)
                                        · rw [if_neg c59] at H
                                          have c59b0 : (((rd_T52 t154 x57_2).f0) == 0) = false := beq_eq_false_iff_ne.mpr c59
                                          have c59b1 : (((rd_T52 t154 x57_2).f0) != 0) = true := bne_iff_ne.mpr c59
                                          by_cases c60 : ((rd_T52 t154 x57_2).f2) < 0
                                          · rw [if_pos c60] at H
                                            have c60b0 : decide (((rd_T52 t154 x57_2).f2) < 0) = true := decide_eq_true c60
                                            clear c60
                                            exact absurd (Option.some.inj H) (by rw [HR_.out]; decide)
                                          · rw [if_neg c60] at H
                                            have c60b0 : decide (((rd_T52 t154 x57_2).f2) < 0) = false := decide_eq_false c60
                                            clear c60
                                            by_cases c61 : ((rd_T52 t154 x57_2).f2) ≥ (ji26)
                                            · rw [if_pos c61] at H
                                              have c61b0 : decide ((ji26) ≤ ((rd_T52 t154 x57_2).f2)) = true := decide_eq_true c61
                                              clear c61
                                              exact absurd (Option.some.inj H) (by rw [HR_.out]; decide)
                                            · rw [if_neg c61] at H
                                              have c61b0 : decide ((ji26) ≤ ((rd_T52 t154 x57_2).f2)) = false := decide_eq_false c61
                                              clear c61
                                              by_cases c62 : 0 ≤ ((rd_T52 t154 x57_2).f0)
                                              · rw [if_pos c62] at H
                                                have c62b0 : decide (0 ≤ ((rd_T52 t154 x57_2).f0)) = true := decide_eq_true c62
                                                clear c62
                                                by_cases c63 : ((rd_T52 t154 x57_2).f0) < (x12_2.length : Int)
                                                · rw [if_pos c63] at H
                                                  have c63b0 : decide (((rd_T52 t154 x57_2).f0) < (x12_2.length : Int)) = true := decide_eq_true c63
                                                  clear c63
                                                  by_cases c64 : (rd x12_2 ((rd_T52 t154 x57_2).f0)) = ((rd_T52 t154 x57_2).f2)
                                                  · rw [if_pos c64] at H
                                                    have c64b0 : ((rd x12_2 ((rd_T52 t154 x57_2).f0)) == ((rd_T52 t154 x57_2).f2)) = true := beq_iff_eq.mpr c64
                                                    have c64b1 : ((rd x12_2 ((rd_T52 t154 x57_2).f0)) != ((rd_T52 t154 x57_2).f2)) = false := bne_eq_false_iff_eq.mpr c64
                                                    clear c64
                                                    obtain ⟨y181, hy181⟩ : ∃ y_ : List Int, y_ = (x12_2.set (((rd_T52 t154 x57_2).f0) : Int).toNat (-1)) := ⟨_, rfl⟩
                                                    replace H : (if 0 ≤ ((rd_T52 t154 x57_2).f2) then (if ((rd_T52 t154 x57_2).f2) < (x15_2.length : Int) then (hornbeamlaw21_SchedOnce.l1 kj35 (ji26) (wrap64 (1 + (wrap64 (Int.tmod a1 64)))) t154 y181 x14_2 (x15_2.set (((rd_T52 t154 x57_2).f2) : Int).toNat (wrap64 ((rd x15_2 ((rd_T52 t154 x57_2).f2)) + 1))) x16_2 t154 (t154.length : Int) (wrap64 (x57_2 + 1))) else (none)) else (none)) = some r := by first | (rw [hy181]; with_reducible exact H) | (have H2_ := (Option.bind_some _ _).symm.trans H; rw [hy181]; with_reducible exact H2_) | (have H2_ := (Option.bind_some _ _).symm.trans H; with_reducible exact H2_) | with_reducible exact H | (rw [hy181]; exact H) | exact H
                                                    have Ny181 := Aside0.mk hy181
                                                    clear hy181
                                                    by_cases c66 : 0 ≤ ((rd_T52 t154 x57_2).f2)
                                                    · rw [if_pos c66] at H
                                                      have c66b0 : decide (0 ≤ ((rd_T52 t154 x57_2).f2)) = true := decide_eq_true c66
                                                      clear c66
                                                      by_cases c67 : ((rd_T52 t154 x57_2).f2) < (x15_2.length : Int)
                                                      · rw [if_pos c67] at H
                                                        have c67b0 : decide (((rd_T52 t154 x57_2).f2) < (x15_2.length : Int)) = true := decide_eq_true c67
                                                        clear c67
                                                        obtain ⟨y183, hy183⟩ : ∃ y_ : List Int, y_ = (x15_2.set (((rd_T52 t154 x57_2).f2) : Int).toNat (wrap64 ((rd x15_2 ((rd_T52 t154 x57_2).f2)) + 1))) := ⟨_, rfl⟩
                                                        replace H : (hornbeamlaw21_SchedOnce.l1 kj35 (ji26) (wrap64 (1 + (wrap64 (Int.tmod a1 64)))) t154 y181 x14_2 y183 x16_2 t154 (t154.length : Int) (wrap64 (x57_2 + 1))) = some r := by first | (rw [hy183]; with_reducible exact H) | (have H2_ := (Option.bind_some _ _).symm.trans H; rw [hy183]; with_reducible exact H2_) | (have H2_ := (Option.bind_some _ _).symm.trans H; with_reducible exact H2_) | with_reducible exact H | (rw [hy183]; exact H) | exact H
                                                        have Ny183 := Aside0.mk hy183
                                                        clear hy183
                                                        have H' := Aside0.mk H
                                                        clear H
                                                        have hnb69 := NB177_168.out
                                                        have hnc69 := NB168_177.out
                                                        have hcz70_0 : wc.cell? ⟨gb177, 0, none⟩ = some (.int .i64 ((rd_T52 t154 x57_2).f0)) := (blk_cell BK177.out 0).trans rfl
                                                        have hcz70_1 : wc.cell? ⟨gb177, 1, none⟩ = some (.int .i64 ((rd_T52 t154 x57_2).f1)) := (blk_cell BK177.out 1).trans rfl
                                                        have hcz70_2 : wc.cell? ⟨gb177, 2, none⟩ = some (.int .i64 ((rd_T52 t154 x57_2).f2)) := (blk_cell BK177.out 2).trans rfl
                                                        have hfz70_0 := blk_frozen BK177.out 0
                                                        have hfz70_1 := blk_frozen BK177.out 1
                                                        have hfz70_2 := blk_frozen BK177.out 2
                                                        try go_wp2
                                                        have n0_ := Aside0.mk (Kd.R_drew HO_9.out)
                                                        have n1_ := Aside0.mk (Kd.R_drew HO_12.out)
                                                        have n2_ := Aside0.mk (Kd.R_drew HO_15.out)
                                                        have n3_ := Aside0.mk (Kd.R_drew HO_55.out)
                                                        have n4_ := Aside0.mk (Kd.R_drew HO_169003.out)
                                                        have n5_ := Aside0.mk (Kd.R_drew HO_169004.out)
                                                        have n6_ := Aside0.mk (blk_drew BK168.out)
                                                        have n7_ := Aside0.mk (blk_drew BK177.out)
                                                        have n8_ := Aside0.mk (below_drew1 HB.out)
                                                        clear HO_9
                                                        clear HO_12
                                                        clear HO_15
                                                        clear HO_55
                                                        clear HO_169003
                                                        clear HO_169004
                                                        clear BK168
                                                        clear BK177
                                                        clear HB
                                                        have HO_9 := n0_
                                                        have HO_12 := n1_
                                                        have HO_15 := n2_
                                                        have HO_55 := n3_
                                                        have HO_169003 := n4_
                                                        have HO_169004 := n5_
                                                        have BK168 := n6_
                                                        have BK177 := n7_
                                                        have HB := n8_
                                                        clear n0_ n1_ n2_ n3_ n4_ n5_ n6_ n7_ n8_
                                                        have p180 : 0 ≤ (((rd_T52 t154 x57_2).f0) : Int) := of_decide_eq_true (by first | (with_reducible assumption) | assumption)
                                                        have q180 : ((rd_T52 t154 x57_2).f0) < (x12_2.length : Int) := of_decide_eq_true (by first | (with_reducible assumption) | assumption)
                                                        obtain ⟨ad180, e180, hx180_0⟩ := Kd.at_int (Kd.R_reads' HO_12.out).2.2 ((rd_T52 t154 x57_2).f0) p180 q180
                                                        cases e180
                                                        replace p180 := eq_true p180
                                                        replace q180 := eq_true q180
                                                        refine start_ (n := 24) (S := fun w' => w'.cell? ⟨gb177, 0, none⟩ = some (.int .i64 ((rd_T52 t154 x57_2).f0)) ∧ w'.cell? ⟨gb177, 1, none⟩ = some (.int .i64 ((rd_T52 t154 x57_2).f1)) ∧ w'.cell? ⟨gb177, 2, none⟩ = some (.int .i64 ((rd_T52 t154 x57_2).f2)) ∧ w'.cell? (ad180.add (((rd_T52 t154 x57_2).f0)).toNat) = some (.int .i64 (rd x12_2 ((rd_T52 t154 x57_2).f0)))) (ds := []) #[false, false, false, false, false, false, false, false, false, false, false, false, false, false, false, false, false, false, false, false, false, false, false, false] (by kernel_rfl) rfl rfl ⟨(blk_cell BK177.out 0).trans rfl, (blk_cell BK177.out 1).trans rfl, (blk_cell BK177.out 2).trans rfl, hx180_0⟩ (fun hHeld => ?_); refine with_tabW hornbeamlaw21_SchedOnce.tab27 hornbeamlaw21_SchedOnce.bits27 (fun HT_ HW_ => ?_)
                                                        generalize wc.drew = w71 at HO_9 HO_12 HO_15 HO_55 HO_169003 HO_169004 BK168 BK177 HB hx180_0 hHeld ⊢
                                                        refine pure_ (i := 0) (N := some 108) (v := ?_) (a' := ?_) #[true, false, false, false, false, false, false, false, false, false, false, false, false, false, false, false, false, false, false, false, false, false, false, false] rfl rfl (any_of HT_.out (by kernel_rfl)) (fun _ _ _ h => h) (Or.inl ⟨by rfl, ?_⟩) ?_ ?_
                                                        rotate_left
                                                        · intro w'
                                                          go_simp
                                                          with_reducible rfl
                                                        rotate_left
                                                        · simp only [Act.put, List.setIfInBounds_toArray, List.set_cons_zero, List.set_cons_succ, i64_w, i32_w]
                                                          rfl
                                                        refine take_ (i := 1) (N := some 109) (v := ?_) (a' := ?_) #[true, true, false, false, false, false, false, false, false, false, false, false, false, false, false, false, false, false, false, false, false, false, false, false] rfl rfl (take_ofW HT_.out HW_.out (by kernel_rfl)) (fun _ _ _ h => h) (Or.inl ⟨by rfl, ?_⟩) hHeld ?_ ?_
                                                        rotate_left
                                                        · rintro w' ⟨s0, s1, s2, s3⟩
                                                          go_simp
                                                          with_reducible rfl
                                                        rotate_left
                                                        · simp only [Act.put, List.setIfInBounds_toArray, List.set_cons_zero, List.set_cons_succ, i64_w, i32_w]
                                                          rfl
                                                        refine pure_ (i := 2) (N := some 110) (v := ?_) (a' := ?_) #[true, true, true, false, false, false, false, false, false, false, false, false, false, false, false, false, false, false, false, false, false, false, false, false] rfl rfl (any_of HT_.out (by kernel_rfl)) (fun _ _ _ h => h) (Or.inl ⟨by rfl, ?_⟩) ?_ ?_
                                                        rotate_left
                                                        · intro w'
                                                          go_simp
                                                          with_reducible rfl
                                                        rotate_left
                                                        · simp only [Act.put, List.setIfInBounds_toArray, List.set_cons_zero, List.set_cons_succ, i64_w, i32_w]
                                                          rfl
                                                        refine pure_ (i := 3) (N := some 111) (v := ?_) (a' := ?_) #[true, true, true, true, false, false, false, false, false, false, false, false, false, false, false, false, false, false, false, false, false, false, false, false] rfl rfl (any_of HT_.out (by kernel_rfl)) (fun _ _ _ h => h) (Or.inl ⟨by rfl, ?_⟩) ?_ ?_
                                                        rotate_left
                                                        · intro w'
                                                          go_simp
                                                          with_reducible rfl
                                                        rotate_left
                                                        · simp only [Act.put, List.setIfInBounds_toArray, List.set_cons_zero, List.set_cons_succ, i64_w, i32_w]
                                                          rfl
                                                        refine pure_ (i := 4) (N := some 112) (v := ?_) (a' := ?_) #[true, true, true, true, true, false, false, false, false, false, false, false, false, false, false, false, false, false, false, false, false, false, false, false] rfl rfl (any_of HT_.out (by kernel_rfl)) (fun _ _ _ h => h) (Or.inl ⟨by rfl, ?_⟩) ?_ ?_
                                                        rotate_left
                                                        · intro w'
                                                          go_simp
                                                          with_reducible rfl
                                                        rotate_left
                                                        · simp only [Act.put, List.setIfInBounds_toArray, List.set_cons_zero, List.set_cons_succ, i64_w, i32_w]
                                                          rfl
                                                        refine take_ (i := 5) (N := some 113) (v := ?_) (a' := ?_) #[true, true, true, true, true, true, false, false, false, false, false, false, false, false, false, false, false, false, false, false, false, false, false, false] rfl rfl (take_ofW HT_.out HW_.out (by kernel_rfl)) (fun _ _ _ h => h) (Or.inl ⟨by rfl, ?_⟩) hHeld ?_ ?_
                                                        rotate_left
                                                        · rintro w' ⟨s0, s1, s2, s3⟩
                                                          go_simp
                                                          with_reducible rfl
                                                        rotate_left
                                                        · simp only [Act.put, List.setIfInBounds_toArray, List.set_cons_zero, List.set_cons_succ, i64_w, i32_w]
                                                          rfl
                                                        refine pure_ (i := 6) (N := some 114) (v := ?_) (a' := ?_) #[true, true, true, true, true, true, true, false, false, false, false, false, false, false, false, false, false, false, false, false, false, false, false, false] rfl rfl (any_of HT_.out (by kernel_rfl)) (fun _ _ _ h => h) (Or.inl ⟨by rfl, ?_⟩) ?_ ?_
                                                        rotate_left
                                                        · intro w'
                                                          go_simp
                                                          with_reducible rfl
                                                        rotate_left
                                                        · simp only [Act.put, List.setIfInBounds_toArray, List.set_cons_zero, List.set_cons_succ, i64_w, i32_w]
                                                          rfl
                                                        refine pure_ (i := 7) (N := some 115) (v := ?_) (a' := ?_) #[true, true, true, true, true, true, true, true, false, false, false, false, false, false, false, false, false, false, false, false, false, false, false, false] rfl rfl (any_of HT_.out (by kernel_rfl)) (fun _ _ _ h => h) (Or.inl ⟨by rfl, ?_⟩) ?_ ?_
                                                        rotate_left
                                                        · intro w'
                                                          go_simp
                                                          with_reducible rfl
                                                        rotate_left
                                                        · simp only [Act.put, List.setIfInBounds_toArray, List.set_cons_zero, List.set_cons_succ, i64_w, i32_w]
                                                          rfl
                                                        refine pure_ (i := 8) (N := some 116) (v := ?_) (a' := ?_) #[true, true, true, true, true, true, true, true, true, false, false, false, false, false, false, false, false, false, false, false, false, false, false, false] rfl rfl (any_of HT_.out (by kernel_rfl)) (fun _ _ _ h => h) (Or.inl ⟨by rfl, ?_⟩) ?_ ?_
                                                        rotate_left
                                                        · intro w'
                                                          go_simp
                                                          with_reducible rfl
                                                        rotate_left
                                                        · simp only [Act.put, List.setIfInBounds_toArray, List.set_cons_zero, List.set_cons_succ, i64_w, i32_w]
                                                          rfl
                                                        refine pure_ (i := 9) (N := some 117) (v := ?_) (a' := ?_) #[true, true, true, true, true, true, true, true, true, true, false, false, false, false, false, false, false, false, false, false, false, false, false, false] rfl rfl (any_of HT_.out (by kernel_rfl)) (fun _ _ _ h => h) (Or.inl ⟨by rfl, ?_⟩) ?_ ?_
                                                        rotate_left
                                                        · intro w'
                                                          go_simp
                                                          with_reducible rfl
                                                        rotate_left
                                                        · simp only [Act.put, List.setIfInBounds_toArray, List.set_cons_zero, List.set_cons_succ, i64_w, i32_w]
                                                          rfl
                                                        refine pure_ (i := 11) (N := some 119) (v := ?_) (a' := ?_) #[true, true, true, true, true, true, true, true, true, true, false, true, false, false, false, false, false, false, false, false, false, false, false, false] rfl rfl (any_of HT_.out (by kernel_rfl)) (fun _ _ _ h => h) (Or.inl ⟨by rfl, ?_⟩) ?_ ?_
                                                        rotate_left
                                                        · intro w'
                                                          go_simp
                                                          with_reducible rfl
                                                        rotate_left
                                                        · simp only [Act.put, List.setIfInBounds_toArray, List.set_cons_zero, List.set_cons_succ, i64_w, i32_w]
                                                          rfl
                                                        refine take_ (i := 10) (N := some 118) (v := ?_) (a' := ?_) #[true, true, true, true, true, true, true, true, true, true, true, true, false, false, false, false, false, false, false, false, false, false, false, false] rfl rfl (take_ofW HT_.out HW_.out (by kernel_rfl)) (fun _ _ _ h => h) (Or.inl ⟨by rfl, ?_⟩) hHeld ?_ ?_
                                                        rotate_left
                                                        · rintro w' ⟨s0, s1, s2, s3⟩
                                                          go_simp
                                                          with_reducible rfl
                                                        rotate_left
                                                        · simp only [Act.put, List.setIfInBounds_toArray, List.set_cons_zero, List.set_cons_succ, i64_w, i32_w]
                                                          rfl
                                                        refine pure_ (i := 12) (N := some 120) (v := ?_) (a' := ?_) #[true, true, true, true, true, true, true, true, true, true, true, true, true, false, false, false, false, false, false, false, false, false, false, false] rfl rfl (any_of HT_.out (by kernel_rfl)) (fun _ _ _ h => h) (Or.inl ⟨by rfl, ?_⟩) ?_ ?_
                                                        rotate_left
                                                        · intro w'
                                                          go_simp
                                                          with_reducible rfl
                                                        rotate_left
                                                        · simp only [Act.put, List.setIfInBounds_toArray, List.set_cons_zero, List.set_cons_succ, i64_w, i32_w]
                                                          rfl
                                                        refine pure_ (i := 13) (N := some 121) (v := ?_) (a' := ?_) #[true, true, true, true, true, true, true, true, true, true, true, true, true, true, false, false, false, false, false, false, false, false, false, false] rfl rfl (any_of HT_.out (by kernel_rfl)) (fun _ _ _ h => h) (Or.inl ⟨by rfl, ?_⟩) ?_ ?_
                                                        rotate_left
                                                        · intro w'
                                                          go_simp
                                                          with_reducible rfl
                                                        rotate_left
                                                        · simp only [Act.put, List.setIfInBounds_toArray, List.set_cons_zero, List.set_cons_succ, i64_w, i32_w]
                                                          rfl
                                                        refine pure_ (i := 14) (N := some 122) (v := ?_) (a' := ?_) #[true, true, true, true, true, true, true, true, true, true, true, true, true, true, true, false, false, false, false, false, false, false, false, false] rfl rfl (any_of HT_.out (by kernel_rfl)) (fun _ _ _ h => h) (Or.inl ⟨by rfl, ?_⟩) ?_ ?_
                                                        rotate_left
                                                        · intro w'
                                                          go_simp
                                                          with_reducible rfl
                                                        rotate_left
                                                        · simp only [Act.put, List.setIfInBounds_toArray, List.set_cons_zero, List.set_cons_succ, i64_w, i32_w]
                                                          rfl
                                                        refine pure_ (i := 15) (N := some 123) (v := ?_) (a' := ?_) #[true, true, true, true, true, true, true, true, true, true, true, true, true, true, true, true, false, false, false, false, false, false, false, false] rfl rfl (any_of HT_.out (by kernel_rfl)) (fun _ _ _ h => h) (Or.inl ⟨by rfl, ?_⟩) ?_ ?_
                                                        rotate_left
                                                        · intro w'
                                                          go_simp
                                                          with_reducible rfl
                                                        rotate_left
                                                        · simp only [Act.put, List.setIfInBounds_toArray, List.set_cons_zero, List.set_cons_succ, i64_w, i32_w]
                                                          rfl
                                                        refine pure_ (i := 16) (N := some 124) (v := ?_) (a' := ?_) #[true, true, true, true, true, true, true, true, true, true, true, true, true, true, true, true, true, false, false, false, false, false, false, false] rfl rfl (any_of HT_.out (by kernel_rfl)) (fun _ _ _ h => h) (Or.inl ⟨by rfl, ?_⟩) ?_ ?_
                                                        rotate_left
                                                        · intro w'
                                                          go_simp
                                                          with_reducible rfl
                                                        rotate_left
                                                        · simp only [Act.put, List.setIfInBounds_toArray, List.set_cons_zero, List.set_cons_succ, i64_w, i32_w]
                                                          rfl
                                                        refine pure_ (i := 20) (N := some 128) (v := ?_) (a' := ?_) #[true, true, true, true, true, true, true, true, true, true, true, true, true, true, true, true, true, false, false, false, true, false, false, false] rfl rfl (any_of HT_.out (by kernel_rfl)) (fun _ _ _ h => h) (Or.inl ⟨by rfl, ?_⟩) ?_ ?_
                                                        rotate_left
                                                        · intro w'
                                                          go_simp
                                                          with_reducible rfl
                                                        rotate_left
                                                        · simp only [Act.put, List.setIfInBounds_toArray, List.set_cons_zero, List.set_cons_succ, i64_w, i32_w]
                                                          rfl
                                                        refine take_ (i := 17) (N := some 125) (v := ?_) (a' := ?_) #[true, true, true, true, true, true, true, true, true, true, true, true, true, true, true, true, true, true, false, false, true, false, false, false] rfl rfl (take_ofW HT_.out HW_.out (by kernel_rfl)) (fun _ _ _ h => h) (Or.inl ⟨by rfl, ?_⟩) hHeld ?_ ?_
                                                        rotate_left
                                                        · rintro w' ⟨s0, s1, s2, s3⟩
                                                          go_simp
                                                          with_reducible rfl
                                                        rotate_left
                                                        · simp only [Act.put, List.setIfInBounds_toArray, List.set_cons_zero, List.set_cons_succ, i64_w, i32_w]
                                                          rfl
                                                        refine pure_ (i := 18) (N := some 126) (v := ?_) (a' := ?_) #[true, true, true, true, true, true, true, true, true, true, true, true, true, true, true, true, true, true, true, false, true, false, false, false] rfl rfl (any_of HT_.out (by kernel_rfl)) (fun _ _ _ h => h) (Or.inl ⟨by rfl, ?_⟩) ?_ ?_
                                                        rotate_left
                                                        · intro w'
                                                          go_simp
                                                          with_reducible rfl
                                                        rotate_left
                                                        · simp only [Act.put, List.setIfInBounds_toArray, List.set_cons_zero, List.set_cons_succ, i64_w, i32_w]
                                                          rfl
                                                        refine take_ (i := 19) (N := some 127) (v := ?_) (a' := ?_) #[true, true, true, true, true, true, true, true, true, true, true, true, true, true, true, true, true, true, true, true, true, false, false, false] rfl rfl (take_ofW HT_.out HW_.out (by kernel_rfl)) (fun _ _ _ h => h) (Or.inl ⟨by rfl, ?_⟩) hHeld ?_ ?_
                                                        rotate_left
                                                        · rintro w' ⟨s0, s1, s2, s3⟩
                                                          go_simp
                                                          with_reducible rfl
                                                        rotate_left
                                                        · simp only [Act.put, List.setIfInBounds_toArray, List.set_cons_zero, List.set_cons_succ, i64_w, i32_w]
                                                          rfl
                                                        refine take_ (i := 21) (N := some 129) (v := ?_) (a' := ?_) #[true, true, true, true, true, true, true, true, true, true, true, true, true, true, true, true, true, true, true, true, true, true, false, false] rfl rfl (take_ofW HT_.out HW_.out (by kernel_rfl)) (fun _ _ _ h => h) (Or.inl ⟨by rfl, ?_⟩) hHeld ?_ ?_
                                                        rotate_left
                                                        · rintro w' ⟨s0, s1, s2, s3⟩
                                                          go_simp
                                                          with_reducible rfl
                                                        rotate_left
                                                        · simp only [Act.put, List.setIfInBounds_toArray, List.set_cons_zero, List.set_cons_succ, i64_w, i32_w]
                                                          rfl
                                                        refine pure_ (i := 22) (N := some 130) (v := ?_) (a' := ?_) #[true, true, true, true, true, true, true, true, true, true, true, true, true, true, true, true, true, true, true, true, true, true, true, false] rfl rfl (any_of HT_.out (by kernel_rfl)) (fun _ _ _ h => h) (Or.inl ⟨by rfl, ?_⟩) ?_ ?_
                                                        rotate_left
                                                        · intro w'
                                                          go_simp
                                                          with_reducible rfl
                                                        rotate_left
                                                        · simp only [Act.put, List.setIfInBounds_toArray, List.set_cons_zero, List.set_cons_succ, i64_w, i32_w]
                                                          rfl
                                                        refine pure_ (i := 23) (N := some 131) (v := ?_) (a' := ?_) #[true, true, true, true, true, true, true, true, true, true, true, true, true, true, true, true, true, true, true, true, true, true, true, true] rfl rfl (any_of HT_.out (by kernel_rfl)) (fun _ _ _ h => h) (Or.inl ⟨by rfl, ?_⟩) ?_ ?_
                                                        rotate_left
                                                        · intro w'
                                                          go_simp
                                                          with_reducible rfl
                                                        rotate_left
                                                        · simp only [Act.put, List.setIfInBounds_toArray, List.set_cons_zero, List.set_cons_succ, i64_w, i32_w]
                                                          rfl
                                                        refine done_ (done_of HT_.out (by kernel_rfl)) ?_
                                                        have hcz72_0 : w71.cell? ⟨gb177, 0, none⟩ = some (.int .i64 ((rd_T52 t154 x57_2).f0)) := (blk_cell BK177.out 0).trans rfl
                                                        have hcz72_1 : w71.cell? ⟨gb177, 1, none⟩ = some (.int .i64 ((rd_T52 t154 x57_2).f1)) := (blk_cell BK177.out 1).trans rfl
                                                        have hcz72_2 : w71.cell? ⟨gb177, 2, none⟩ = some (.int .i64 ((rd_T52 t154 x57_2).f2)) := (blk_cell BK177.out 2).trans rfl
                                                        have hfz72_0 := blk_frozen BK177.out 0
                                                        have hfz72_1 := blk_frozen BK177.out 1
                                                        have hfz72_2 := blk_frozen BK177.out 2
                                                        have p65 : 0 ≤ (((rd_T52 t154 x57_2).f0) : Int) := of_decide_eq_true (by first | (with_reducible assumption) | assumption)
                                                        have q65 : (((rd_T52 t154 x57_2).f0) : Int) < ((x12_2.length : Int) : Int) := of_decide_eq_true (by first | (with_reducible assumption) | assumption)
                                                        obtain ⟨go65, co65, eo65, gb65, gl65, cl65, HG65⟩ := Kd.R_form HO_12.out (by omega)
                                                        (first | cases eo65 | (injection eo65 with ea_ en_ ec_; (first | subst ea_ | (injection ea_ with ea_; subst ea_)); subst ec_; clear en_))
                                                        have GB65 := Aside0.mk gb65
                                                        have GG65 := Aside0.mk HG65
                                                        clear gb65 gl65 HG65
                                                        (first | simp only [add_plain] at hx180_0 | skip)
                                                        obtain ⟨hx65_0, hf65_0⟩ := Kd.R_celln 0 HO_12.out (((rd_T52 t154 x57_2).f0) : Int) p65 q65
                                                        replace p65 := eq_true p65
                                                        replace q65 := eq_true q65
                                                        obtain ⟨hy73_, hz73_⟩ := Kd.R_celln 0 HO_12.out (((rd_T52 t154 x57_2).f0) : Int) (of_decide_eq_true (by first | (with_reducible assumption) | assumption)) (of_decide_eq_true (by first | (with_reducible assumption) | assumption))
                                                        have HP73 := Kd.R_putg HO_12.out (((rd_T52 t154 x57_2).f0) : Int) (-1)
                                                        try go_wp2_with (first | ((with_reducible refine gate_store (t := 3) (p := 135) rfl ?_); refine store_event (t := 3) (p := 135) (v := ?vo_w74) (w1 := (w71.setCell ⟨go65, (((rd_T52 t154 x57_2).f0) : Int).toNat, none⟩ (.int .i64 (-1)))) ?hg ?ho ?hn ?hr ?_; (case ho => rfl); (case hg => rfl); (case hn => rfl); (case hr => first | (go_simp; done) | (go_simp; rfl)); intro w74 hw; have hg : w71.grownBy w74 (some go65) := (by rw [hw]; exact HP73.2); have hp_ : Kd.R (Kd.int .i64) 3 w74 w.heap.size (fun k_ => some k_ ≠ (v174 : Value).ownBlock ∧ some k_ ≠ (.slice Ao15 t160.length co15 : Value).ownBlock) (.slice (some ⟨go65, 0, none⟩) x12_2.length co19) y181 := (by rw [hw, Ny181.out]; exact HP73.1); clear HP73; have n0_ := Aside0.mk (Kd.R_over' (v := (.slice (some ⟨go65, 0, none⟩) x12_2.length co19)) (by (with_reducible repeat (first | apply Kd.R_alloc | apply Kd.R_drewN | apply Kd.R_drew)); exact HO_9.out) (Kd.R_typed HO_12.out) (by decide) hg); have n1_ := Aside0.mk (hp_); have n2_ := Aside0.mk (Kd.R_after (v := (.slice (some ⟨go65, 0, none⟩) x12_2.length co19)) (v1 := (.slice (some ⟨go65, 0, none⟩) x12_2.length co19)) (ok := (fun k_ => some k_ ≠ (.slice Ao15 t160.length co15 : Value).ownBlock)) (by (with_reducible repeat (first | apply Kd.R_alloc | apply Kd.R_drewN | apply Kd.R_drew)); exact Kd.R_mono HO_15.out (fun _ hk => ⟨hk.2, hk.1⟩)) hg (.inl rfl)); have n3_ := Aside0.mk (Kd.R_over' (v := (.slice (some ⟨go65, 0, none⟩) x12_2.length co19)) (by (with_reducible repeat (first | apply Kd.R_alloc | apply Kd.R_drewN | apply Kd.R_drew)); exact HO_55.out) (Kd.R_typed HO_12.out) (by decide) hg); have n4_ := Aside0.mk (Kd.R_after (v := (.slice (some ⟨go65, 0, none⟩) x12_2.length co19)) (v1 := (.slice (some ⟨go65, 0, none⟩) x12_2.length co19)) (ok := (fun k_ => some k_ ≠ (v174 : Value).ownBlock)) (by (with_reducible repeat (first | apply Kd.R_alloc | apply Kd.R_drewN | apply Kd.R_drew)); exact Kd.R_mono HO_169003.out (fun _ hk => ⟨hk.2, hk.1⟩)) hg (.inl rfl)); have n5_ := Aside0.mk (Kd.R_over' (v := (.slice (some ⟨go65, 0, none⟩) x12_2.length co19)) (by (with_reducible repeat (first | apply Kd.R_alloc | apply Kd.R_drewN | apply Kd.R_drew)); exact HO_169004.out) (Kd.R_typed HO_12.out) (by decide) hg); have n6_ := Aside0.mk (blk_grown (g := gb168) (o := .cells #[.int .i64 t157, .int .i64 t158, .int .i64 t159, .slice Ao15 t160.length co15, .slice Ao16 t163.length co16, .bool t166] 42 (0, 0)) (by (with_reducible repeat (first | refine blk_drewN ?_ _ | refine blk_drew ?_ | refine blk_alloc ?_ _)); exact BK168.out) hg (Kd.R_ne HO_12.out BK168.out (by decide))); have n7_ := Aside0.mk (blk_grown (g := gb177) (o := .cells #[.int .i64 ((rd_T52 t154 x57_2).f0), .int .i64 ((rd_T52 t154 x57_2).f1), .int .i64 ((rd_T52 t154 x57_2).f2)] 52 (0, 0)) (by (with_reducible repeat (first | refine blk_drewN ?_ _ | refine blk_drew ?_ | refine blk_alloc ?_ _)); exact BK177.out) hg (Kd.R_ne HO_12.out BK177.out (by decide))); have n8_ := Aside0.mk ((by rw [hw]; exact below_set (HB.out) GB65.out : Below w.heap.size w w74)); clear HO_9; clear HO_12; clear HO_15; clear HO_55; clear HO_169003; clear HO_169004; clear BK168; clear BK177; clear HB; have HO_9 := n0_; have HO_12 := n1_; have HO_15 := n2_; have HO_55 := n3_; have HO_169003 := n4_; have HO_169004 := n5_; have BK168 := n6_; have BK177 := n7_; have HB := n8_; clear n0_ n1_ n2_ n3_ n4_ n5_ n6_ n7_ n8_; clear hg hw hp_; have hcz75_0 : w74.cell? ⟨gb177, 0, none⟩ = some (.int .i64 ((rd_T52 t154 x57_2).f0)) := (blk_cell BK177.out 0).trans rfl; have hcz75_1 : w74.cell? ⟨gb177, 1, none⟩ = some (.int .i64 ((rd_T52 t154 x57_2).f1)) := (blk_cell BK177.out 1).trans rfl; have hcz75_2 : w74.cell? ⟨gb177, 2, none⟩ = some (.int .i64 ((rd_T52 t154 x57_2).f2)) := (blk_cell BK177.out 2).trans rfl; have hfz75_0 := blk_frozen BK177.out 0; have hfz75_1 := blk_frozen BK177.out 1; have hfz75_2 := blk_frozen BK177.out 2; obtain ⟨Ao76, co76, eo76⟩ := Kd.R_slice HO_15.out; subst eo76; have p182 : 0 ≤ (((rd_T52 t154 x57_2).f2) : Int) := of_decide_eq_true (by first | (with_reducible assumption) | assumption); have q182 : ((rd_T52 t154 x57_2).f2) < (x15_2.length : Int) := of_decide_eq_true (by first | (with_reducible assumption) | assumption); obtain ⟨ad182, e182, hx182_0⟩ := Kd.at_int (Kd.R_reads' HO_15.out).2.2 ((rd_T52 t154 x57_2).f2) p182 q182; cases e182; replace p182 := eq_true p182; replace q182 := eq_true q182; have p68 : 0 ≤ (((rd_T52 t154 x57_2).f2) : Int) := of_decide_eq_true (by first | (with_reducible assumption) | assumption); have q68 : (((rd_T52 t154 x57_2).f2) : Int) < ((x15_2.length : Int) : Int) := of_decide_eq_true (by first | (with_reducible assumption) | assumption); obtain ⟨go68, co68, eo68, gb68, gl68, cl68, HG68⟩ := Kd.R_form HO_15.out (by omega); (first | cases eo68 | (injection eo68 with ea_ en_ ec_; (first | subst ea_ | (injection ea_ with ea_; subst ea_)); subst ec_; clear en_)); have GB68 := Aside0.mk gb68; have GG68 := Aside0.mk HG68; clear gb68 gl68 HG68; (first | simp only [add_plain] at hx182_0 | skip); obtain ⟨hx68_0, hf68_0⟩ := Kd.R_celln 0 HO_15.out (((rd_T52 t154 x57_2).f2) : Int) p68 q68; replace p68 := eq_true p68; replace q68 := eq_true q68; obtain ⟨hy77_, hz77_⟩ := Kd.R_celln 0 HO_15.out (((rd_T52 t154 x57_2).f2) : Int) (of_decide_eq_true (by first | (with_reducible assumption) | assumption)) (of_decide_eq_true (by first | (with_reducible assumption) | assumption)); have HP77 := Kd.R_putg HO_15.out (((rd_T52 t154 x57_2).f2) : Int) (wrap64 ((rd x15_2 ((rd_T52 t154 x57_2).f2)) + 1))) | ((with_reducible refine gate_store (t := 3) (p := 142) rfl ?_); refine store_event (t := 3) (p := 142) (v := ?vo_w78) (w1 := (w74.setCell ⟨go68, (((rd_T52 t154 x57_2).f2) : Int).toNat, none⟩ (.int .i64 (wrap64 ((rd x15_2 ((rd_T52 t154 x57_2).f2)) + 1))))) ?hg ?ho ?hn ?hr ?_; (case ho => rfl); (case hg => rfl); (case hn => rfl); (case hr => first | (go_simp; done) | (go_simp; rfl)); intro w78 hw; have hg : w74.grownBy w78 (some go68) := (by rw [hw]; exact HP77.2); have hp_ : Kd.R (Kd.int .i64) 3 w78 w.heap.size (fun k_ => some k_ ≠ (.slice Ao15 t160.length co15 : Value).ownBlock ∧ some k_ ≠ (.slice (some ⟨go65, 0, none⟩) x12_2.length co19 : Value).ownBlock) (.slice (some ⟨go68, 0, none⟩) x15_2.length co76) y183 := (by rw [hw, Ny183.out]; exact HP77.1); clear HP77; have n0_ := Aside0.mk (Kd.R_over' (v := (.slice (some ⟨go68, 0, none⟩) x15_2.length co76)) (by (with_reducible repeat (first | apply Kd.R_alloc | apply Kd.R_drewN | apply Kd.R_drew)); exact HO_9.out) (Kd.R_typed HO_15.out) (by decide) hg); have n1_ := Aside0.mk (Kd.R_after (v := (.slice (some ⟨go68, 0, none⟩) x15_2.length co76)) (v1 := (.slice (some ⟨go68, 0, none⟩) x15_2.length co76)) (ok := (fun k_ => some k_ ≠ (.slice Ao15 t160.length co15 : Value).ownBlock)) (by (with_reducible repeat (first | apply Kd.R_alloc | apply Kd.R_drewN | apply Kd.R_drew)); exact Kd.R_mono HO_12.out (fun _ hk => ⟨hk.2, hk.1⟩)) hg (.inl rfl)); have n2_ := Aside0.mk (hp_); have n3_ := Aside0.mk (Kd.R_over' (v := (.slice (some ⟨go68, 0, none⟩) x15_2.length co76)) (by (with_reducible repeat (first | apply Kd.R_alloc | apply Kd.R_drewN | apply Kd.R_drew)); exact HO_55.out) (Kd.R_typed HO_15.out) (by decide) hg); have n4_ := Aside0.mk (Kd.R_after (v := (.slice (some ⟨go68, 0, none⟩) x15_2.length co76)) (v1 := (.slice (some ⟨go68, 0, none⟩) x15_2.length co76)) (ok := (fun k_ => some k_ ≠ (.slice (some ⟨go65, 0, none⟩) x12_2.length co19 : Value).ownBlock)) (by (with_reducible repeat (first | apply Kd.R_alloc | apply Kd.R_drewN | apply Kd.R_drew)); exact Kd.R_mono HO_169003.out (fun _ hk => ⟨hk.2, hk.1⟩)) hg (.inl rfl)); have n5_ := Aside0.mk (Kd.R_over' (v := (.slice (some ⟨go68, 0, none⟩) x15_2.length co76)) (by (with_reducible repeat (first | apply Kd.R_alloc | apply Kd.R_drewN | apply Kd.R_drew)); exact HO_169004.out) (Kd.R_typed HO_15.out) (by decide) hg); have n6_ := Aside0.mk (blk_grown (g := gb168) (o := .cells #[.int .i64 t157, .int .i64 t158, .int .i64 t159, .slice Ao15 t160.length co15, .slice Ao16 t163.length co16, .bool t166] 42 (0, 0)) (by (with_reducible repeat (first | refine blk_drewN ?_ _ | refine blk_drew ?_ | refine blk_alloc ?_ _)); exact BK168.out) hg (Kd.R_ne HO_15.out BK168.out (by decide))); have n7_ := Aside0.mk (blk_grown (g := gb177) (o := .cells #[.int .i64 ((rd_T52 t154 x57_2).f0), .int .i64 ((rd_T52 t154 x57_2).f1), .int .i64 ((rd_T52 t154 x57_2).f2)] 52 (0, 0)) (by (with_reducible repeat (first | refine blk_drewN ?_ _ | refine blk_drew ?_ | refine blk_alloc ?_ _)); exact BK177.out) hg (Kd.R_ne HO_15.out BK177.out (by decide))); have n8_ := Aside0.mk ((by rw [hw]; exact below_set (HB.out) GB68.out : Below w.heap.size w w78)); clear HO_9; clear HO_12; clear HO_15; clear HO_55; clear HO_169003; clear HO_169004; clear BK168; clear BK177; clear HB; have HO_9 := n0_; have HO_12 := n1_; have HO_15 := n2_; have HO_55 := n3_; have HO_169003 := n4_; have HO_169004 := n5_; have BK168 := n6_; have BK177 := n7_; have HB := n8_; clear n0_ n1_ n2_ n3_ n4_ n5_ n6_ n7_ n8_; clear hg hw hp_))
                                                        (try simp only [← hl12_2])
                                                        go_roundg kj35
                                                        case measure => have := HK1.out; have := HK2.out; have := HJ35.out; omega
                                                        case rel => exact ⟨(y181), (x14_2), (y183), (x16_2), (wrap64 (x57_2 + 1)), (by first | rfl | (simp; done) | (simp [*]; done)), (by first | rfl | (simp; done) | (simp [*]; done)), (by first | rfl | (simp; done) | (simp [*]; done)), H', ⟨by have := HK1.out; have := HK2.out; have := HJ35.out; omega⟩, ⟨by (try simp only [hl12_1]); (try simp only [hl12_2]); (with_reducible repeat (first | apply Kd.R_alloc | apply Kd.R_drewN | apply Kd.R_drew)); exact Kd.R_mono HO_9.out (fun _ hk => trivial)⟩, ⟨by (try simp only [hl12_1]); (try simp only [hl12_2]); (with_reducible repeat (first | apply Kd.R_alloc | apply Kd.R_drewN | apply Kd.R_drew)); exact Kd.R_mono HO_12.out (fun _ hk => ⟨hk.2, hk.1⟩)⟩, ⟨by (try simp only [hl12_1]); (try simp only [hl12_2]); (with_reducible repeat (first | apply Kd.R_alloc | apply Kd.R_drewN | apply Kd.R_drew)); exact Kd.R_mono HO_15.out (fun _ hk => ⟨hk.2, hk.1⟩)⟩, ⟨by (try simp only [hl12_1]); (try simp only [hl12_2]); (with_reducible repeat (first | apply Kd.R_alloc | apply Kd.R_drewN | apply Kd.R_drew)); exact Kd.R_mono HO_55.out (fun _ hk => trivial)⟩, ⟨by (try simp only [hl12_1]); (try simp only [hl12_2]); (with_reducible repeat (first | apply Kd.R_alloc | apply Kd.R_drewN | apply Kd.R_drew)); exact HO_169003.out⟩, ⟨by (try simp only [hl12_1]); (try simp only [hl12_2]); (with_reducible repeat (first | apply Kd.R_alloc | apply Kd.R_drewN | apply Kd.R_drew)); exact HO_169004.out⟩, ⟨by (try simp only [hl12_1]); (try simp only [hl12_2]); (with_reducible repeat (first | refine blk_drewN ?_ _ | refine blk_drew ?_ | refine blk_alloc ?_ _)); exact BK168.out⟩, ⟨by repeat (first | (with_reducible first | exact HB.out | apply below_alloc | apply pw_below_drewN | apply below_drew1 | refine below_set ?_ GE168.out | refine below_set ?_ GE177.out) | exact HB.out)⟩⟩
                                                      · rw [if_neg c67] at H
                                                        exact absurd H (by simp)
                                                    · rw [if_neg c66] at H
                                                      exact absurd H (by simp)
                                                  · rw [if_neg c64] at H
                                                    have c64b0 : ((rd x12_2 ((rd_T52 t154 x57_2).f0)) == ((rd_T52 t154 x57_2).f2)) = false := beq_eq_false_iff_ne.mpr c64
                                                    have c64b1 : ((rd x12_2 ((rd_T52 t154 x57_2).f0)) != ((rd_T52 t154 x57_2).f2)) = true := bne_iff_ne.mpr c64
                                                    exact absurd (Option.some.inj H) (by rw [HR_.out]; decide)
                                                · rw [if_neg c63] at H
                                                  exact absurd H (by simp)
                                              · rw [if_neg c62] at H
                                                exact absurd H (by simp)
                                      · rw [if_neg c58] at H
                                        have c58b0 : (((rd_T52 t154 x57_2).f1) == 2) = false := beq_eq_false_iff_ne.mpr c58
                                        have c58b1 : (((rd_T52 t154 x57_2).f1) != 2) = true := bne_iff_ne.mpr c58
                                        by_cases c79 : ((rd_T52 t154 x57_2).f1) = 3
                                        · rw [if_pos c79] at H
                                          have c79b0 : (((rd_T52 t154 x57_2).f1) == 3) = true := beq_iff_eq.mpr c79
                                          have c79b1 : (((rd_T52 t154 x57_2).f1) != 3) = false := bne_eq_false_iff_eq.mpr c79
                                          clear c79
                                          by_cases c80 : ((rd_T52 t154 x57_2).f0) = 0
                                          · rw [if_pos c80] at H
                                            have c80b0 : (((rd_T52 t154 x57_2).f0) == 0) = true := beq_iff_eq.mpr c80
                                            have c80b1 : (((rd_T52 t154 x57_2).f0) != 0) = false := bne_eq_false_iff_eq.mpr c80
                                            clear c80
                                            exact absurd (Option.some.inj H) (by rw [HR_.out]; decide)
                                          · rw [if_neg c80] at H
                                            have c80b0 : (((rd_T52 t154 x57_2).f0) == 0) = false := beq_eq_false_iff_ne.mpr c80
                                            have c80b1 : (((rd_T52 t154 x57_2).f0) != 0) = true := bne_iff_ne.mpr c80
                                            by_cases c81 : 0 ≤ ((rd_T52 t154 x57_2).f0)
                                            · rw [if_pos c81] at H
                                              have c81b0 : decide (0 ≤ ((rd_T52 t154 x57_2).f0)) = true := decide_eq_true c81
                                              clear c81
                                              by_cases c82 : ((rd_T52 t154 x57_2).f0) < (x12_2.length : Int)
                                              · rw [if_pos c82] at H
                                                have c82b0 : decide (((rd_T52 t154 x57_2).f0) < (x12_2.length : Int)) = true := decide_eq_true c82
                                                clear c82
                                                by_cases c83 : (rd x12_2 ((rd_T52 t154 x57_2).f0)) = (-1)
                                                · rw [if_pos c83] at H
                                                  have c83b0 : ((rd x12_2 ((rd_T52 t154 x57_2).f0)) == (-1)) = true := beq_iff_eq.mpr c83
                                                  have c83b1 : ((rd x12_2 ((rd_T52 t154 x57_2).f0)) != (-1)) = false := bne_eq_false_iff_eq.mpr c83
                                                  clear c83
                                                  by_cases c84 : x14_2 = (ji26)
                                                  · rw [if_pos c84] at H
                                                    have c84b0 : (x14_2 == (ji26)) = true := beq_iff_eq.mpr c84
                                                    have c84b1 : (x14_2 != (ji26)) = false := bne_eq_false_iff_eq.mpr c84
                                                    clear c84
                                                    obtain ⟨y185, hy185⟩ : ∃ y_ : List Int, y_ = (x12_2.set (((rd_T52 t154 x57_2).f0) : Int).toNat (-2)) := ⟨_, rfl⟩
                                                    replace H : (hornbeamlaw21_SchedOnce.l1 kj35 (ji26) (wrap64 (1 + (wrap64 (Int.tmod a1 64)))) t154 y185 x14_2 x15_2 (wrap64 (x16_2 + 1)) t154 (t154.length : Int) (wrap64 (x57_2 + 1))) = some r := by first | (rw [hy185]; with_reducible exact H) | (have H2_ := (Option.bind_some _ _).symm.trans H; rw [hy185]; with_reducible exact H2_) | (have H2_ := (Option.bind_some _ _).symm.trans H; with_reducible exact H2_) | with_reducible exact H | (rw [hy185]; exact H) | exact H
                                                    have Ny185 := Aside0.mk hy185
                                                    clear hy185
                                                    have H' := Aside0.mk H
                                                    clear H
                                                    have hnb86 := NB177_168.out
                                                    have hnc86 := NB168_177.out
                                                    have hcz87_0 : wc.cell? ⟨gb177, 0, none⟩ = some (.int .i64 ((rd_T52 t154 x57_2).f0)) := (blk_cell BK177.out 0).trans rfl
                                                    have hcz87_1 : wc.cell? ⟨gb177, 1, none⟩ = some (.int .i64 ((rd_T52 t154 x57_2).f1)) := (blk_cell BK177.out 1).trans rfl
                                                    have hcz87_2 : wc.cell? ⟨gb177, 2, none⟩ = some (.int .i64 ((rd_T52 t154 x57_2).f2)) := (blk_cell BK177.out 2).trans rfl
                                                    have hfz87_0 := blk_frozen BK177.out 0
                                                    have hfz87_1 := blk_frozen BK177.out 1
                                                    have hfz87_2 := blk_frozen BK177.out 2
                                                    have p184 : 0 ≤ (((rd_T52 t154 x57_2).f0) : Int) := of_decide_eq_true (by first | (with_reducible assumption) | assumption)
                                                    have q184 : ((rd_T52 t154 x57_2).f0) < (x12_2.length : Int) := of_decide_eq_true (by first | (with_reducible assumption) | assumption)
                                                    obtain ⟨ad184, e184, hx184_0⟩ := Kd.at_int (Kd.R_reads' HO_12.out).2.2 ((rd_T52 t154 x57_2).f0) p184 q184
                                                    cases e184
                                                    replace p184 := eq_true p184
                                                    replace q184 := eq_true q184
                                                    have p85 : 0 ≤ (((rd_T52 t154 x57_2).f0) : Int) := of_decide_eq_true (by first | (with_reducible assumption) | assumption)
                                                    have q85 : (((rd_T52 t154 x57_2).f0) : Int) < ((x12_2.length : Int) : Int) := of_decide_eq_true (by first | (with_reducible assumption) | assumption)
                                                    obtain ⟨go85, co85, eo85, gb85, gl85, cl85, HG85⟩ := Kd.R_form HO_12.out (by omega)
                                                    (first | cases eo85 | (injection eo85 with ea_ en_ ec_; (first | subst ea_ | (injection ea_ with ea_; subst ea_)); subst ec_; clear en_))
                                                    have GB85 := Aside0.mk gb85
                                                    have GG85 := Aside0.mk HG85
                                                    clear gb85 gl85 HG85
                                                    (first | simp only [add_plain] at hx184_0 | skip)
                                                    obtain ⟨hx85_0, hf85_0⟩ := Kd.R_celln 0 HO_12.out (((rd_T52 t154 x57_2).f0) : Int) p85 q85
                                                    replace p85 := eq_true p85
                                                    replace q85 := eq_true q85
                                                    have HP88 := Kd.R_putg HO_12.out (((rd_T52 t154 x57_2).f0) : Int) (-2)
                                                    go_wp2_with (first | ((with_reducible refine gate_store (t := 3) (p := 164) rfl ?_); refine store_event (t := 3) (p := 164) (v := ?vo_w89) (w1 := (wc.setCell ⟨go85, (((rd_T52 t154 x57_2).f0) : Int).toNat, none⟩ (.int .i64 (-2)))) ?hg ?ho ?hn ?hr ?_; (case ho => rfl); (case hg => rfl); (case hn => rfl); (case hr => first | (go_simp; done) | (go_simp; rfl)); intro w89 hw; have hg : wc.grownBy w89 (some go85) := (by rw [hw]; exact HP88.2); have hp_ : Kd.R (Kd.int .i64) 3 w89 w.heap.size (fun k_ => some k_ ≠ (v174 : Value).ownBlock ∧ some k_ ≠ (.slice Ao15 t160.length co15 : Value).ownBlock) (.slice (some ⟨go85, 0, none⟩) x12_2.length co19) y185 := (by rw [hw, Ny185.out]; exact HP88.1); clear HP88; have n0_ := Aside0.mk (Kd.R_over' (v := (.slice (some ⟨go85, 0, none⟩) x12_2.length co19)) (by (with_reducible repeat (first | apply Kd.R_alloc | apply Kd.R_drewN | apply Kd.R_drew)); exact HO_9.out) (Kd.R_typed HO_12.out) (by decide) hg); have n1_ := Aside0.mk (hp_); have n2_ := Aside0.mk (Kd.R_after (v := (.slice (some ⟨go85, 0, none⟩) x12_2.length co19)) (v1 := (.slice (some ⟨go85, 0, none⟩) x12_2.length co19)) (ok := (fun k_ => some k_ ≠ (.slice Ao15 t160.length co15 : Value).ownBlock)) (by (with_reducible repeat (first | apply Kd.R_alloc | apply Kd.R_drewN | apply Kd.R_drew)); exact Kd.R_mono HO_15.out (fun _ hk => ⟨hk.2, hk.1⟩)) hg (.inl rfl)); have n3_ := Aside0.mk (Kd.R_over' (v := (.slice (some ⟨go85, 0, none⟩) x12_2.length co19)) (by (with_reducible repeat (first | apply Kd.R_alloc | apply Kd.R_drewN | apply Kd.R_drew)); exact HO_55.out) (Kd.R_typed HO_12.out) (by decide) hg); have n4_ := Aside0.mk (Kd.R_after (v := (.slice (some ⟨go85, 0, none⟩) x12_2.length co19)) (v1 := (.slice (some ⟨go85, 0, none⟩) x12_2.length co19)) (ok := (fun k_ => some k_ ≠ (v174 : Value).ownBlock)) (by (with_reducible repeat (first | apply Kd.R_alloc | apply Kd.R_drewN | apply Kd.R_drew)); exact Kd.R_mono HO_169003.out (fun _ hk => ⟨hk.2, hk.1⟩)) hg (.inl rfl)); have n5_ := Aside0.mk (Kd.R_over' (v := (.slice (some ⟨go85, 0, none⟩) x12_2.length co19)) (by (with_reducible repeat (first | apply Kd.R_alloc | apply Kd.R_drewN | apply Kd.R_drew)); exact HO_169004.out) (Kd.R_typed HO_12.out) (by decide) hg); have n6_ := Aside0.mk (blk_grown (g := gb168) (o := .cells #[.int .i64 t157, .int .i64 t158, .int .i64 t159, .slice Ao15 t160.length co15, .slice Ao16 t163.length co16, .bool t166] 42 (0, 0)) (by (with_reducible repeat (first | refine blk_drewN ?_ _ | refine blk_drew ?_ | refine blk_alloc ?_ _)); exact BK168.out) hg (Kd.R_ne HO_12.out BK168.out (by decide))); have n7_ := Aside0.mk (blk_grown (g := gb177) (o := .cells #[.int .i64 ((rd_T52 t154 x57_2).f0), .int .i64 ((rd_T52 t154 x57_2).f1), .int .i64 ((rd_T52 t154 x57_2).f2)] 52 (0, 0)) (by (with_reducible repeat (first | refine blk_drewN ?_ _ | refine blk_drew ?_ | refine blk_alloc ?_ _)); exact BK177.out) hg (Kd.R_ne HO_12.out BK177.out (by decide))); have n8_ := Aside0.mk ((by rw [hw]; exact below_set (HB.out) GB85.out : Below w.heap.size w w89)); clear HO_9; clear HO_12; clear HO_15; clear HO_55; clear HO_169003; clear HO_169004; clear BK168; clear BK177; clear HB; have HO_9 := n0_; have HO_12 := n1_; have HO_15 := n2_; have HO_55 := n3_; have HO_169003 := n4_; have HO_169004 := n5_; have BK168 := n6_; have BK177 := n7_; have HB := n8_; clear n0_ n1_ n2_ n3_ n4_ n5_ n6_ n7_ n8_; clear hg hw hp_))
                                                    (try simp only [← hl12_2])
                                                    go_roundg kj35
                                                    case measure => have := HK1.out; have := HK2.out; have := HJ35.out; omega
                                                    case rel => exact ⟨(y185), (x14_2), (x15_2), (wrap64 (x16_2 + 1)), (wrap64 (x57_2 + 1)), (by first | rfl | (simp; done) | (simp [*]; done)), (by first | rfl | (simp; done) | (simp [*]; done)), (by first | rfl | (simp; done) | (simp [*]; done)), H', ⟨by have := HK1.out; have := HK2.out; have := HJ35.out; omega⟩, ⟨by (try simp only [hl12_1]); (try simp only [hl12_2]); (with_reducible repeat (first | apply Kd.R_alloc | apply Kd.R_drewN | apply Kd.R_drew)); exact Kd.R_mono HO_9.out (fun _ hk => trivial)⟩, ⟨by (try simp only [hl12_1]); (try simp only [hl12_2]); (with_reducible repeat (first | apply Kd.R_alloc | apply Kd.R_drewN | apply Kd.R_drew)); exact HO_12.out⟩, ⟨by (try simp only [hl12_1]); (try simp only [hl12_2]); (with_reducible repeat (first | apply Kd.R_alloc | apply Kd.R_drewN | apply Kd.R_drew)); exact Kd.R_mono HO_15.out (fun _ hk => ⟨hk.2, hk.1⟩)⟩, ⟨by (try simp only [hl12_1]); (try simp only [hl12_2]); (with_reducible repeat (first | apply Kd.R_alloc | apply Kd.R_drewN | apply Kd.R_drew)); exact Kd.R_mono HO_55.out (fun _ hk => trivial)⟩, ⟨by (try simp only [hl12_1]); (try simp only [hl12_2]); (with_reducible repeat (first | apply Kd.R_alloc | apply Kd.R_drewN | apply Kd.R_drew)); exact Kd.R_mono HO_169003.out (fun _ hk => ⟨hk.2, hk.1⟩)⟩, ⟨by (try simp only [hl12_1]); (try simp only [hl12_2]); (with_reducible repeat (first | apply Kd.R_alloc | apply Kd.R_drewN | apply Kd.R_drew)); exact HO_169004.out⟩, ⟨by (try simp only [hl12_1]); (try simp only [hl12_2]); (with_reducible repeat (first | refine blk_drewN ?_ _ | refine blk_drew ?_ | refine blk_alloc ?_ _)); exact BK168.out⟩, ⟨by repeat (first | (with_reducible first | exact HB.out | apply below_alloc | apply pw_below_drewN | apply below_drew1 | refine below_set ?_ GE168.out | refine below_set ?_ GE177.out) | exact HB.out)⟩⟩
                                                  · rw [if_neg c84] at H
                                                    have c84b0 : (x14_2 == (ji26)) = false := beq_eq_false_iff_ne.mpr c84
                                                    have c84b1 : (x14_2 != (ji26)) = true := bne_iff_ne.mpr c84
                                                    exact absurd (Option.some.inj H) (by rw [HR_.out]; decide)
                                                · rw [if_neg c83] at H
                                                  have c83b0 : ((rd x12_2 ((rd_T52 t154 x57_2).f0)) == (-1)) = false := beq_eq_false_iff_ne.mpr c83
                                                  have c83b1 : ((rd x12_2 ((rd_T52 t154 x57_2).f0)) != (-1)) = true := bne_iff_ne.mpr c83
                                                  exact absurd (Option.some.inj H) (by rw [HR_.out]; decide)
                                              · rw [if_neg c82] at H
                                                exact absurd H (by simp)
                                            · rw [if_neg c81] at H
                                              exact absurd H (by simp)
                                        · rw [if_neg c79] at H
                                          have c79b0 : (((rd_T52 t154 x57_2).f1) == 3) = false := beq_eq_false_iff_ne.mpr c79
                                          have c79b1 : (((rd_T52 t154 x57_2).f1) != 3) = true := bne_iff_ne.mpr c79
                                          by_cases c90 : ((rd_T52 t154 x57_2).f1) = 4
                                          · rw [if_pos c90] at H
                                            have c90b0 : (((rd_T52 t154 x57_2).f1) == 4) = true := beq_iff_eq.mpr c90
                                            have c90b1 : (((rd_T52 t154 x57_2).f1) != 4) = false := bne_eq_false_iff_eq.mpr c90
                                            clear c90
                                            by_cases c91 : ((rd_T52 t154 x57_2).f0) = 0
                                            · rw [if_pos c91] at H
                                              have c91b0 : (((rd_T52 t154 x57_2).f0) == 0) = true := beq_iff_eq.mpr c91
                                              have c91b1 : (((rd_T52 t154 x57_2).f0) != 0) = false := bne_eq_false_iff_eq.mpr c91
                                              clear c91
                                              by_cases c92 : x57_2 = (wrap64 ((t154.length : Int) - 1))
                                              · rw [if_pos c92] at H
                                                have c92b0 : (x57_2 == (wrap64 ((t154.length : Int) - 1))) = true := beq_iff_eq.mpr c92
                                                have c92b1 : (x57_2 != (wrap64 ((t154.length : Int) - 1))) = false := bne_eq_false_iff_eq.mpr c92
                                                clear c92
                                                by_cases c93 : x16_2 = (wrap64 (1 + (wrap64 (Int.tmod a1 64))))
                                                · rw [if_pos c93] at H
                                                  have c93b0 : (x16_2 == (wrap64 (1 + (wrap64 (Int.tmod a1 64))))) = true := beq_iff_eq.mpr c93
                                                  have c93b1 : (x16_2 != (wrap64 (1 + (wrap64 (Int.tmod a1 64))))) = false := bne_eq_false_iff_eq.mpr c93
                                                  clear c93
                                                  have H' := Aside0.mk H
                                                  clear H
                                                  have hnb94 := NB177_168.out
                                                  have hnc94 := NB168_177.out
                                                  have hcz95_0 : wc.cell? ⟨gb177, 0, none⟩ = some (.int .i64 ((rd_T52 t154 x57_2).f0)) := (blk_cell BK177.out 0).trans rfl
                                                  have hcz95_1 : wc.cell? ⟨gb177, 1, none⟩ = some (.int .i64 ((rd_T52 t154 x57_2).f1)) := (blk_cell BK177.out 1).trans rfl
                                                  have hcz95_2 : wc.cell? ⟨gb177, 2, none⟩ = some (.int .i64 ((rd_T52 t154 x57_2).f2)) := (blk_cell BK177.out 2).trans rfl
                                                  have hfz95_0 := blk_frozen BK177.out 0
                                                  have hfz95_1 := blk_frozen BK177.out 1
                                                  have hfz95_2 := blk_frozen BK177.out 2
                                                  go_wp2
                                                  (try simp only [← hl12_2])
                                                  go_roundg kj35
                                                  case measure => have := HK1.out; have := HK2.out; have := HJ35.out; omega
                                                  case rel => exact ⟨(x12_2), (x14_2), (x15_2), (x16_2), (wrap64 (x57_2 + 1)), (by first | rfl | (simp; done) | (simp [*]; done)), (by first | rfl | (simp; done) | (simp [*]; done)), (by first | rfl | (simp; done) | (simp [*]; done)), H', ⟨by have := HK1.out; have := HK2.out; have := HJ35.out; omega⟩, ⟨by (try simp only [hl12_1]); (try simp only [hl12_2]); (with_reducible repeat (first | apply Kd.R_alloc | apply Kd.R_drewN | apply Kd.R_drew)); exact Kd.R_mono HO_9.out (fun _ hk => trivial)⟩, ⟨by (try simp only [hl12_1]); (try simp only [hl12_2]); (with_reducible repeat (first | apply Kd.R_alloc | apply Kd.R_drewN | apply Kd.R_drew)); exact HO_12.out⟩, ⟨by (try simp only [hl12_1]); (try simp only [hl12_2]); (with_reducible repeat (first | apply Kd.R_alloc | apply Kd.R_drewN | apply Kd.R_drew)); exact HO_15.out⟩, ⟨by (try simp only [hl12_1]); (try simp only [hl12_2]); (with_reducible repeat (first | apply Kd.R_alloc | apply Kd.R_drewN | apply Kd.R_drew)); exact Kd.R_mono HO_55.out (fun _ hk => trivial)⟩, ⟨by (try simp only [hl12_1]); (try simp only [hl12_2]); (with_reducible repeat (first | apply Kd.R_alloc | apply Kd.R_drewN | apply Kd.R_drew)); exact HO_169003.out⟩, ⟨by (try simp only [hl12_1]); (try simp only [hl12_2]); (with_reducible repeat (first | apply Kd.R_alloc | apply Kd.R_drewN | apply Kd.R_drew)); exact HO_169004.out⟩, ⟨by (try simp only [hl12_1]); (try simp only [hl12_2]); (with_reducible repeat (first | refine blk_drewN ?_ _ | refine blk_drew ?_ | refine blk_alloc ?_ _)); exact BK168.out⟩, ⟨by repeat (first | (with_reducible first | exact HB.out | apply below_alloc | apply pw_below_drewN | apply below_drew1 | refine below_set ?_ GE168.out | refine below_set ?_ GE177.out) | exact HB.out)⟩⟩
                                                · rw [if_neg c93] at H
                                                  have c93b0 : (x16_2 == (wrap64 (1 + (wrap64 (Int.tmod a1 64))))) = false := beq_eq_false_iff_ne.mpr c93
                                                  have c93b1 : (x16_2 != (wrap64 (1 + (wrap64 (Int.tmod a1 64))))) = true := bne_iff_ne.mpr c93
                                                  exact absurd (Option.some.inj H) (by rw [HR_.out]; decide)
                                              · rw [if_neg c92] at H
                                                have c92b0 : (x57_2 == (wrap64 ((t154.length : Int) - 1))) = false := beq_eq_false_iff_ne.mpr c92
                                                have c92b1 : (x57_2 != (wrap64 ((t154.length : Int) - 1))) = true := bne_iff_ne.mpr c92
                                                exact absurd (Option.some.inj H) (by rw [HR_.out]; decide)
                                            · rw [if_neg c91] at H
                                              have c91b0 : (((rd_T52 t154 x57_2).f0) == 0) = false := beq_eq_false_iff_ne.mpr c91
                                              have c91b1 : (((rd_T52 t154 x57_2).f0) != 0) = true := bne_iff_ne.mpr c91
                                              exact absurd (Option.some.inj H) (by rw [HR_.out]; decide)
                                          · rw [if_neg c90] at H
                                            have c90b0 : (((rd_T52 t154 x57_2).f1) == 4) = false := beq_eq_false_iff_ne.mpr c90
                                            have c90b1 : (((rd_T52 t154 x57_2).f1) != 4) = true := bne_iff_ne.mpr c90
                                            exact absurd (Option.some.inj H) (by rw [HR_.out]; decide)
                            · rw [if_neg c35] at H
                              exact absurd H (by simp)
                          · rw [if_neg c34] at H
                            exact absurd H (by simp)
                        · rw [if_neg c33] at H
                          have c33b0 : decide (x57_2 < (t154.length : Int)) = false := decide_eq_false c33
                          clear c33
                          have H' := Aside0.mk H
                          clear H
                          obtain ⟨Ao96, co96, eo96⟩ := Kd.R_slice HO_15.out
                          subst eo96
                          go_wp2
                          go_loopg [187] k2 (fun kq v187 w' => ∃ (x187_3 : Int), v187 = .int .i64 x187_3 ∧ Aside0 (hornbeamlaw21_SchedOnce.l2 kq (ji26) (wrap64 (1 + (wrap64 (Int.tmod a1 64)))) x14_2 x16_2 x15_2 (x15_2.length : Int) x187_3 = some r) ∧ Aside0 (kq ≤ k2) ∧ Aside0 (Kd.R (Kd.int .i64) 3 w' w.heap.size (fun k_ => some k_ ≠ ((.slice Ao15 t160.length co15) : Value).ownBlock) (.slice Ao96 x15_2.length co96) x15_2) ∧ Aside0 (Kd.R (Kd.int .i64) 3 w' w.heap.size (fun k_ => some k_ ≠ ((.slice Ao96 x15_2.length co96) : Value).ownBlock) (.slice Ao15 t160.length co15) t160) ∧ Aside0 (Kd.R Kd.bool 4 w' w.heap.size (fun _ => True) (.slice Ao16 t163.length co16) t163) ∧ Aside0 (w'.heap[gb168]? = some (.cells #[.int .i64 t157, .int .i64 t158, .int .i64 t159, (.slice Ao15 t160.length co15), (.slice Ao16 t163.length co16), .bool t166] 42 (0, 0))) ∧ Aside0 (Below w.heap.size w w'))
                          case atStart => exact ⟨(0), (by first | rfl | (simp; done) | (simp [*]; done)), H', ⟨Nat.le_refl _⟩, ⟨by (try simp only [hl12_1]); (try simp only [hl12_2]); (with_reducible repeat (first | apply Kd.R_alloc | apply Kd.R_drewN | apply Kd.R_drew)); exact Kd.R_mono HO_15.out (fun _ hk => hk.2)⟩, ⟨by (try simp only [hl12_1]); (try simp only [hl12_2]); (with_reducible repeat (first | apply Kd.R_alloc | apply Kd.R_drewN | apply Kd.R_drew)); exact Kd.R_mono HO_169003.out (fun _ hk => hk.2)⟩, ⟨by (try simp only [hl12_1]); (try simp only [hl12_2]); (with_reducible repeat (first | apply Kd.R_alloc | apply Kd.R_drewN | apply Kd.R_drew)); exact HO_169004.out⟩, ⟨by (try simp only [hl12_1]); (try simp only [hl12_2]); (with_reducible repeat (first | refine blk_drewN ?_ _ | refine blk_drew ?_ | refine blk_alloc ?_ _)); exact BK168.out⟩, ⟨by repeat (first | (with_reducible first | exact HB.out | apply below_alloc | apply pw_below_drewN | apply below_drew1 | refine below_set ?_ GE168.out) | exact HB.out)⟩⟩
                          case round =>
                            clear H'
                            try clear p1
                            try clear q1
                            try clear hx1
                            try clear p2
                            try clear c3
                            try clear c4
                            try clear c5
                            try clear p5
                            try clear q5
                            try clear hx5
                            try clear hf5
                            try clear c6
                            try clear p6
                            try clear q6
                            try clear hx6
                            try clear hf6
                            try clear c7
                            try clear c8
                            try clear p8
                            try clear q8
                            try clear hx8
                            try clear hf8
                            try clear c9
                            try clear p17
                            try clear q17
                            try clear hx17
                            try clear p18
                            try clear q18
                            try clear hx18
                            try clear c33
                            try clear c33b0
                            try clear c34
                            try clear c35
                            try clear c45
                            try clear c46
                            try clear c46b0
                            try clear c46b1
                            try clear c47
                            try clear c47b0
                            try clear c47b1
                            try clear c48
                            try clear c48b0
                            try clear c49
                            try clear c49b0
                            try clear c50
                            try clear c50b0
                            try clear c50b1
                            try clear c51
                            try clear c51b0
                            try clear c51b1
                            try clear c52
                            try clear c52b0
                            try clear p53
                            try clear q53
                            try clear hx53
                            try clear hf53
                            try clear c54
                            try clear c58
                            try clear c58b0
                            try clear c58b1
                            try clear c59
                            try clear c59b0
                            try clear c59b1
                            try clear c60
                            try clear c60b0
                            try clear c61
                            try clear c61b0
                            try clear c62
                            try clear c62b0
                            try clear c63
                            try clear c63b0
                            try clear c64
                            try clear c64b0
                            try clear c64b1
                            try clear p64
                            try clear p65
                            try clear q65
                            try clear hx65
                            try clear hf65
                            try clear c66
                            try clear c66b0
                            try clear c67
                            try clear c67b0
                            try clear p68
                            try clear q68
                            try clear hx68
                            try clear hf68
                            try clear c69
                            try clear c79
                            try clear c79b0
                            try clear c79b1
                            try clear c80
                            try clear c80b0
                            try clear c80b1
                            try clear c81
                            try clear c81b0
                            try clear c82
                            try clear c82b0
                            try clear c83
                            try clear c83b0
                            try clear c83b1
                            try clear c84
                            try clear c84b0
                            try clear c84b1
                            try clear p85
                            try clear q85
                            try clear hx85
                            try clear hf85
                            try clear c86
                            try clear c90
                            try clear c90b0
                            try clear c90b1
                            try clear c91
                            try clear c91b0
                            try clear c91b1
                            try clear c92
                            try clear c92b0
                            try clear c92b1
                            try clear c93
                            try clear c93b0
                            try clear c93b1
                            try clear c94
                            try clear hcz55_0
                            try clear hcz55_1
                            try clear hcz55_2
                            try clear hcz70_0
                            try clear hcz70_1
                            try clear hcz70_2
                            try clear hcz72_0
                            try clear hcz72_1
                            try clear hcz72_2
                            try clear hcz75_0
                            try clear hcz75_1
                            try clear hcz75_2
                            try clear hcz87_0
                            try clear hcz87_1
                            try clear hcz87_2
                            try clear hcz95_0
                            try clear hcz95_1
                            try clear hcz95_2
                            try clear hfz55_0
                            try clear hfz55_1
                            try clear hfz55_2
                            try clear hfz70_0
                            try clear hfz70_1
                            try clear hfz70_2
                            try clear hfz72_0
                            try clear hfz72_1
                            try clear hfz72_2
                            try clear hfz75_0
                            try clear hfz75_1
                            try clear hfz75_2
                            try clear hfz87_0
                            try clear hfz87_1
                            try clear hfz87_2
                            try clear hfz95_0
                            try clear hfz95_1
                            try clear hfz95_2
                            try clear hx178_0
                            try clear hx180_0
                            try clear hx182_0
                            try clear hx184_0
                            try clear hx53_0
                            try clear hx65_0
                            try clear hx68_0
                            try clear hx85_0
                            try clear p178
                            try clear p180
                            try clear p182
                            try clear p184
                            try clear p53
                            try clear p65
                            try clear p68
                            try clear p85
                            try clear q178
                            try clear q180
                            try clear q182
                            try clear q184
                            try clear q53
                            try clear q65
                            try clear q68
                            try clear q85
                            obtain ⟨x187_3, rfl, HA, HK3, HO_185, HO_169003, HO_169004, BK168, HB⟩ := hrel
                            cases gk with
                            | zero => exact absurd HA.out (by simp [hornbeamlaw21_SchedOnce.l2])
                            | succ k3 =>
                              have H := HA.out
                              clear HA
                              simp only [hornbeamlaw21_SchedOnce.l2] at H
                              by_cases c97 : x187_3 < (x15_2.length : Int)
                              · rw [if_pos c97] at H
                                have c97b0 : decide (x187_3 < (x15_2.length : Int)) = true := decide_eq_true c97
                                clear c97
                                by_cases c98 : 0 ≤ x187_3
                                · rw [if_pos c98] at H
                                  have c98b0 : decide (0 ≤ x187_3) = true := decide_eq_true c98
                                  clear c98
                                  by_cases c99 : x187_3 < (x15_2.length : Int)
                                  · rw [if_pos c99] at H
                                    have c99b0 : decide (x187_3 < (x15_2.length : Int)) = true := decide_eq_true c99
                                    clear c99
                                    by_cases c100 : (rd x15_2 x187_3) = 1
                                    · rw [if_pos c100] at H
                                      have c100b0 : ((rd x15_2 x187_3) == 1) = true := beq_iff_eq.mpr c100
                                      have c100b1 : ((rd x15_2 x187_3) != 1) = false := bne_eq_false_iff_eq.mpr c100
                                      clear c100
                                      have H' := Aside0.mk H
                                      clear H
                                      have p186 : 0 ≤ (x187_3 : Int) := of_decide_eq_true (by first | (with_reducible assumption) | assumption)
                                      have q186 : x187_3 < (x15_2.length : Int) := of_decide_eq_true (by first | (with_reducible assumption) | assumption)
                                      obtain ⟨ad186, e186, hx186_0⟩ := Kd.at_int (Kd.R_reads' HO_185.out).2.2 x187_3 p186 q186
                                      cases e186
                                      replace p186 := eq_true p186
                                      replace q186 := eq_true q186
                                      go_wp2
                                      go_roundg k3
                                      case measure => have := HK1.out; have := HK2.out; have := HK3.out; omega
                                      case rel => exact ⟨(wrap64 (x187_3 + 1)), (by first | rfl | (simp; done) | (simp [*]; done)), H', ⟨by have := HK1.out; have := HK2.out; have := HK3.out; omega⟩, ⟨by (try simp only [hl12_1]); (try simp only [hl12_2]); (with_reducible repeat (first | apply Kd.R_alloc | apply Kd.R_drewN | apply Kd.R_drew)); exact HO_185.out⟩, ⟨by (try simp only [hl12_1]); (try simp only [hl12_2]); (with_reducible repeat (first | apply Kd.R_alloc | apply Kd.R_drewN | apply Kd.R_drew)); exact HO_169003.out⟩, ⟨by (try simp only [hl12_1]); (try simp only [hl12_2]); (with_reducible repeat (first | apply Kd.R_alloc | apply Kd.R_drewN | apply Kd.R_drew)); exact HO_169004.out⟩, ⟨by (try simp only [hl12_1]); (try simp only [hl12_2]); (with_reducible repeat (first | refine blk_drewN ?_ _ | refine blk_drew ?_ | refine blk_alloc ?_ _)); exact BK168.out⟩, ⟨by repeat (first | (with_reducible first | exact HB.out | apply below_alloc | apply pw_below_drewN | apply below_drew1 | refine below_set ?_ GE168.out) | exact HB.out)⟩⟩
                                    · rw [if_neg c100] at H
                                      have c100b0 : ((rd x15_2 x187_3) == 1) = false := beq_eq_false_iff_ne.mpr c100
                                      have c100b1 : ((rd x15_2 x187_3) != 1) = true := bne_iff_ne.mpr c100
                                      exact absurd (Option.some.inj H) (by rw [HR_.out]; decide)
                                  · rw [if_neg c99] at H
                                    exact absurd H (by simp)
                                · rw [if_neg c98] at H
                                  exact absurd H (by simp)
                              · rw [if_neg c97] at H
                                have c97b0 : decide (x187_3 < (x15_2.length : Int)) = false := decide_eq_false c97
                                clear c97
                                replace H := Option.bind_eq_some_iff.mp H
                                obtain ⟨t187, A1010, H⟩ := H
                                replace H : (if t187 = true then (if x16_2 = (wrap64 (1 + (wrap64 (Int.tmod a1 64)))) then (some (x14_2 == (ji26))) else (some false)) else (some false)) = some r := H
                                have A101 := Aside0.mk A1010
                                clear A1010
                                by_cases c102 : t187 = true
                                · subst c102
                                  have H1 : (if x16_2 = (wrap64 (1 + (wrap64 (Int.tmod a1 64)))) then (some (x14_2 == (ji26))) else (some false)) = some r := by rw [if_pos rfl] at H; exact H
                                  clear H
                                  have H := H1
                                  clear H1
                                  by_cases c103 : x16_2 = (wrap64 (1 + (wrap64 (Int.tmod a1 64))))
                                  · rw [if_pos c103] at H
                                    have c103b0 : (x16_2 == (wrap64 (1 + (wrap64 (Int.tmod a1 64))))) = true := beq_iff_eq.mpr c103
                                    have c103b1 : (x16_2 != (wrap64 (1 + (wrap64 (Int.tmod a1 64))))) = false := bne_eq_false_iff_eq.mpr c103
                                    clear c103
                                    obtain rfl := Option.some.inj H
                                    go_wp2_with (first | ((with_reducible refine gate_callee (f := 21) rfl ?_); refine goesL_ (some 194) rfl rfl Try.func21 (by kernel_rfl) rfl #[] rfl (by (try simp only [List.map_toArray, List.map_cons, List.map_nil]); first | done | rfl | (simp only [List.length_drop, List.length_take]; rfl)) ?_; (with_reducible refine (hornbeamlaw21_fixed.calls k3  true _ A101.out).mono ?_); rintro e w104 ⟨rfl, hb⟩; refine ⟨_, rfl, ?_⟩; have n0_ := Aside0.mk (Kd.R_below (by (with_reducible repeat (first | apply Kd.R_alloc | apply Kd.R_drewN | apply Kd.R_drew)); exact HO_185.out) hb); have n1_ := Aside0.mk (Kd.R_below (by (with_reducible repeat (first | apply Kd.R_alloc | apply Kd.R_drewN | apply Kd.R_drew)); exact HO_169003.out) hb); have n2_ := Aside0.mk (Kd.R_below (by (with_reducible repeat (first | apply Kd.R_alloc | apply Kd.R_drewN | apply Kd.R_drew)); exact HO_169004.out) hb); have n3_ := Aside0.mk (blk_below (g := gb168) (o := .cells #[.int .i64 t157, .int .i64 t158, .int .i64 t159, .slice Ao15 t160.length co15, .slice Ao16 t163.length co16, .bool t166] 42 (0, 0)) (by (with_reducible repeat (first | refine blk_drewN ?_ _ | refine blk_drew ?_ | refine blk_alloc ?_ _)); exact BK168.out) hb); have n4_ := Aside0.mk (below_step (by repeat (first | (with_reducible first | exact HB.out | apply below_alloc | apply pw_below_drewN | apply below_drew1 | refine below_set ?_ GE168.out) | exact HB.out)) hb); clear HO_185; clear HO_169003; clear HO_169004; clear BK168; clear HB; have HO_185 := n0_; have HO_169003 := n1_; have HO_169004 := n2_; have BK168 := n3_; have HB := n4_; clear n0_ n1_ n2_ n3_ n4_; (try clear hb); (try clear hb2); (try clear hk); (try clear hi)))
                                    all_goals (go_ret; exact ⟨by first | rfl | (simp [errW_none, errW_some] <;> rfl) | (simp only [← hji9, ← hji26]; first | rfl | (simp [errW_none, errW_some] <;> rfl)) | (simp [*, errW_none, errW_some] <;> rfl) | (simp_all; done), by repeat (first | (with_reducible first | exact HB.out | apply below_alloc | apply pw_below_drewN | apply below_drew1 | refine below_set ?_ GE168.out) | exact HB.out)⟩)
                                  · rw [if_neg c103] at H
                                    have c103b0 : (x16_2 == (wrap64 (1 + (wrap64 (Int.tmod a1 64))))) = false := beq_eq_false_iff_ne.mpr c103
                                    have c103b1 : (x16_2 != (wrap64 (1 + (wrap64 (Int.tmod a1 64))))) = true := bne_iff_ne.mpr c103
                                    exact absurd (Option.some.inj H) (by rw [HR_.out]; decide)
                                · replace c102 := Bool.eq_false_iff.mpr c102
                                  subst c102
                                  have H1 : (some false) = some r := by rw [if_neg (show ¬ (false = true) by decide)] at H; exact H
                                  clear H
                                  have H := H1
                                  clear H1
                                  exact absurd (Option.some.inj H) (by rw [HR_.out]; decide)
                  · rw [if_neg c28] at H
                    exact absurd H (by simp)
                · rw [if_neg c27] at H
                  exact absurd H (by simp)
        · rw [if_neg c11] at H
          exact absurd H (by simp)
      · rw [if_neg c10] at H
        exact absurd H (by simp)
    · rw [if_neg c8] at H
      have c8b0 : (t167 == 0) = false := beq_eq_false_iff_ne.mpr c8
      have c8b1 : (t167 != 0) = true := bne_iff_ne.mpr c8
      exact absurd (Option.some.inj H) (by rw [HR_.out]; decide)

/-- THE ONE PURE STATEMENT of hornbeamlaw21_SchedOnce: yours. -/
def hornbeamlaw21_SchedOnce.Pure : Prop := ∀ (a0 : Int) (a1 : Int) (l2 : List Int), (Lit.int .u8 a0).wf = true → (Lit.int .u8 a1).wf = true → l2.length ≤ maxLen → l2.length * 8 ≤ 140737488351232 → (∀ x ∈ l2, (Lit.int .i64 x).wf = true) → ∃ k, hornbeamlaw21_SchedOnce.f k a0 a1 l2 = some true
theorem hornbeamlaw21_SchedOnce.walk (P : hornbeamlaw21_SchedOnce.Pure) (a0 : Int) (a1 : Int) (a2 : Option Addr) (len2 cap2 : Nat) (z2 : List Int) (w : World) (w0 : (Lit.int .u8 a0).wf = true) (w1 : (Lit.int .u8 a1).wf = true) (w2 : (a2 = none ∧ len2 = 0 ∧ cap2 = 0 ∧ z2 = []) ∨ ∃ x, a2 = some x ∧ len2 ≤ cap2 ∧ cap2 ≤ maxLen ∧ z2.length = cap2 ∧ (∀ i, i < z2.length → w.cell? (x.add i) = some (.int .i64 (z2.getD i 0))) ∧ ∀ n ∈ z2, (Lit.int .i64 n).wf = true) (y2 : len2 * 8 ≤ 140737488351232) :
    Calls Try.prog 6 #[.int .u8 a0, .int .u8 a1, .slice a2 len2 cap2] w fun e w' => e = .returned (.bool true) ∧ Below w.heap.size w w' := by
  obtain ⟨l2, rfl, hr2, hm2, hw2, hc2⟩ := ReadsInt.ofRowC w2
  obtain ⟨k, h⟩ := P a0 a1 l2 w0 w1 hm2 y2 hw2
  refine (hornbeamlaw21_SchedOnce.calls k a0 a1 _ _ l2 true w (Kd.C_of_reads (d := (0 : Int)) (h1 := fun _ => rfl) hr2) hc2 h rfl).mono ?_
  rintro e w' ⟨rfl, hd⟩
  exact ⟨rfl, hd⟩

end Go.Proofs.Ytoonddgldmfleaa.QSchedOnce
