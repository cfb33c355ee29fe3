-- Written by a program of this session (wip/tools/mkprint.py over the kit's print); Lean checks it.
import Derived.Test.YtoonddgldmfleaaQSchedKeepsx0
import Derived.Test.YtoonddgldmfleaaQSchedKeepsx4
import Derived.Test.YtoonddgldmfleaaQSchedKeepsx5
import Derived.Test.YtoonddgldmfleaaQSchedKeepsx6
namespace Go.Proofs.Ytoonddgldmfleaa.QSchedKeeps
open Go.RowKit Go.Proofs.YtoonddgldmfleaaW.PrintWords Go.Proofs.YtoonddgldmfleaaW.PrintLast Go.Proofs.YtoonddgldmfleaaW.PrintMore
attribute [local go_sem] max2_int min2_int max_two min_two max_three min_three max_four min_four   -- for this text's walks alone
set_option linter.unusedVariables false
set_option linter.unusedSimpArgs false

/-! ### hornbeamlaw21_SchedKeeps: function 12 -/
mutual
def hornbeamlaw21_SchedKeeps.j0 : Nat → Bool → Int → Int → Int → List Int → List Bool → Bool → Option (Bool)
  | 0, _, _, _, _, _, _, _ => none
  | k + 1, x23, x196000, x196001, x196002, x196003, x196004, x196005 => if x23 = true then ((hornbeamlaw21_fixed.f k).bind fun t197 => (some t197)) else ((sched_Ready.f k x196000 x196001 x196002 x196003 x196004 x196005).bind fun t198 => ((hornbeamlaw21_left.f k x196000 x196001 x196002 x196003 x196004 x196005).bind fun t201 => (if (((t198.length : Int) == 0) != (t201 == 0)) = true then (some false) else (hornbeamlaw21_SchedKeeps.l0 k t198 (t198.length : Int) 0 x196000 x196001 x196002 x196003 x196004 x196005))))
def hornbeamlaw21_SchedKeeps.l0 : Nat → List Int → Int → Int → Int → Int → Int → List Int → List Bool → Bool → Option (Bool)
  | 0, _, _, _, _, _, _, _, _, _ => none
  | k + 1, x34, x35, x36, x196000, x196001, x196002, x196003, x196004, x196005 => if x36 < x35 then (if 0 ≤ x36 then (if x36 < (x34.length : Int) then ((sched_Step.f k x196000 x196001 x196002 x196003 x196004 x196005 (rd x34 x36)).bind fun bt204 => (if bt204.2.2.2.2.2.2.2.2.2 = 0 then ((sched_May.f k bt204.1 bt204.2.1 bt204.2.2.1 bt204.2.2.2.1 bt204.2.2.2.2.1 bt204.2.2.2.2.2.1).bind fun t220 => (if t220 = true then ((hornbeamlaw21_left.f k bt204.1 bt204.2.1 bt204.2.2.1 bt204.2.2.2.1 bt204.2.2.2.2.1 bt204.2.2.2.2.2.1).bind fun t221 => ((hornbeamlaw21_left.f k x196000 x196001 x196002 x196003 x196004 x196005).bind fun t222 => (if t221 = (wrap64 (t222 - 1)) then (hornbeamlaw21_SchedKeeps.l0 k x34 x35 (wrap64 (x36 + 1)) x196000 x196001 x196002 x196003 x196004 x196005) else (some false)))) else (some false))) else (some false))) else (none)) else (none)) else ((hornbeamlaw21_fixed.f k).bind fun t202 => (some t202))
end
def hornbeamlaw21_SchedKeeps.f (k : Nat) (a0_0 : Int) (a0_1 : Int) (a0_2 : Int) (l0_3 : List Int) (l0_4 : List Bool) (a0_5 : Bool) : Option (Bool) := if (l0_4.length : Int) > 200 then (hornbeamlaw21_SchedKeeps.j0 k true a0_0 a0_1 a0_2 l0_3 l0_4 a0_5) else (if (l0_3.length : Int) > 200 then (hornbeamlaw21_SchedKeeps.j0 k true a0_0 a0_1 a0_2 l0_3 l0_4 a0_5) else ((sched_May.f k a0_0 a0_1 a0_2 l0_3 l0_4 a0_5).bind fun t196 => (hornbeamlaw21_SchedKeeps.j0 k (!t196) a0_0 a0_1 a0_2 l0_3 l0_4 a0_5)))
theorem hornbeamlaw21_SchedKeeps.mono_l : ∀ k, (∀ y0 y1 y2 y3 y4 y5 y6, LeO (hornbeamlaw21_SchedKeeps.j0 k y0 y1 y2 y3 y4 y5 y6) (hornbeamlaw21_SchedKeeps.j0 (k + 1) y0 y1 y2 y3 y4 y5 y6)) ∧ (∀ y0 y1 y2 y3 y4 y5 y6 y7 y8, LeO (hornbeamlaw21_SchedKeeps.l0 k y0 y1 y2 y3 y4 y5 y6 y7 y8) (hornbeamlaw21_SchedKeeps.l0 (k + 1) y0 y1 y2 y3 y4 y5 y6 y7 y8))
  | 0 => ⟨fun _ _ _ _ _ _ _ r h => by simp [hornbeamlaw21_SchedKeeps.j0] at h, fun _ _ _ _ _ _ _ _ _ r h => by simp [hornbeamlaw21_SchedKeeps.l0] at h⟩
  | k + 1 => by
    obtain ⟨ih0, ih1⟩ := hornbeamlaw21_SchedKeeps.mono_l k
    refine ⟨?_, ?_⟩
    · intro y0 y1 y2 y3 y4 y5 y6
      unfold hornbeamlaw21_SchedKeeps.j0
      repeat' first
      | (with_reducible exact ih0 _ _ _ _ _ _ _)
      | (with_reducible exact ih1 _ _ _ _ _ _ _ _ _)
      | (with_reducible exact hornbeamlaw21_fixed.mono _)
      | (with_reducible exact hornbeamlaw21_left.mono _ _ _ _ _ _ _)
      | (with_reducible exact sched_May.mono _ _ _ _ _ _ _)
      | (with_reducible exact sched_Ready.mono _ _ _ _ _ _ _)
      | (with_reducible exact sched_Step.mono _ _ _ _ _ _ _ _)
      | (with_reducible exact LeO.refl _)
      | (with_reducible exact LeO.none _)
      | (with_reducible refine LeO.ite ?_ ?_)
      | (with_reducible refine LeO.bind ?_ (fun _ => ?_))
      | exact ih0 _ _ _ _ _ _ _
      | exact ih1 _ _ _ _ _ _ _ _ _
      | exact hornbeamlaw21_fixed.mono _
      | exact hornbeamlaw21_left.mono _ _ _ _ _ _ _
      | exact sched_May.mono _ _ _ _ _ _ _
      | exact sched_Ready.mono _ _ _ _ _ _ _
      | exact sched_Step.mono _ _ _ _ _ _ _ _
      | exact LeO.none _
      | refine LeO.ite ?_ ?_
      | refine LeO.bind ?_ (fun _ => ?_)
    · intro y0 y1 y2 y3 y4 y5 y6 y7 y8
      unfold hornbeamlaw21_SchedKeeps.l0
      repeat' first
      | (with_reducible exact ih0 _ _ _ _ _ _ _)
      | (with_reducible exact ih1 _ _ _ _ _ _ _ _ _)
      | (with_reducible exact hornbeamlaw21_fixed.mono _)
      | (with_reducible exact hornbeamlaw21_left.mono _ _ _ _ _ _ _)
      | (with_reducible exact sched_May.mono _ _ _ _ _ _ _)
      | (with_reducible exact sched_Ready.mono _ _ _ _ _ _ _)
      | (with_reducible exact sched_Step.mono _ _ _ _ _ _ _ _)
      | (with_reducible exact LeO.refl _)
      | (with_reducible exact LeO.none _)
      | (with_reducible refine LeO.ite ?_ ?_)
      | (with_reducible refine LeO.bind ?_ (fun _ => ?_))
      | exact ih0 _ _ _ _ _ _ _
      | exact ih1 _ _ _ _ _ _ _ _ _
      | exact hornbeamlaw21_fixed.mono _
      | exact hornbeamlaw21_left.mono _ _ _ _ _ _ _
      | exact sched_May.mono _ _ _ _ _ _ _
      | exact sched_Ready.mono _ _ _ _ _ _ _
      | exact sched_Step.mono _ _ _ _ _ _ _ _
      | exact LeO.none _
      | refine LeO.ite ?_ ?_
      | refine LeO.bind ?_ (fun _ => ?_)
theorem hornbeamlaw21_SchedKeeps.mono : ∀ a0 a1 a2 a3 a4 a5 k, LeO (hornbeamlaw21_SchedKeeps.f k a0 a1 a2 a3 a4 a5) (hornbeamlaw21_SchedKeeps.f (k + 1) a0 a1 a2 a3 a4 a5) := by
  intro a0 a1 a2 a3 a4 a5 k
  obtain ⟨ih0, ih1⟩ := hornbeamlaw21_SchedKeeps.mono_l k
  unfold hornbeamlaw21_SchedKeeps.f
  repeat' first
      | (with_reducible exact ih0 _ _ _ _ _ _ _)
      | (with_reducible exact ih1 _ _ _ _ _ _ _ _ _)
      | (with_reducible exact hornbeamlaw21_fixed.mono _)
      | (with_reducible exact hornbeamlaw21_left.mono _ _ _ _ _ _ _)
      | (with_reducible exact sched_May.mono _ _ _ _ _ _ _)
      | (with_reducible exact sched_Ready.mono _ _ _ _ _ _ _)
      | (with_reducible exact sched_Step.mono _ _ _ _ _ _ _ _)
      | (with_reducible exact LeO.refl _)
      | (with_reducible exact LeO.none _)
      | (with_reducible refine LeO.ite ?_ ?_)
      | (with_reducible refine LeO.bind ?_ (fun _ => ?_))
      | exact ih0 _ _ _ _ _ _ _
      | exact ih1 _ _ _ _ _ _ _ _ _
      | exact hornbeamlaw21_fixed.mono _
      | exact hornbeamlaw21_left.mono _ _ _ _ _ _ _
      | exact sched_May.mono _ _ _ _ _ _ _
      | exact sched_Ready.mono _ _ _ _ _ _ _
      | exact sched_Step.mono _ _ _ _ _ _ _ _
      | exact LeO.none _
      | refine LeO.ite ?_ ?_
      | refine LeO.bind ?_ (fun _ => ?_)
def hornbeamlaw21_SchedKeeps.T10 : Bool × List (List Nat × List Nat) := (true, [([], []), ([0], [0]), ([1], [1]), ([2], [2]), ([3, 2, 2], [2, 3]), ([4, 2], [2, 4]), ([2, 5], [2, 5]), ([6, 4], [6]), ([7], [7]), ([8, 7, 7], [7, 8]), ([7], [7]), ([10, 9, 7], [7, 10]), ([11, 7], [7, 11]), ([9, 12, 7], [7, 9, 12]), ([7, 13], [7, 13])])
def hornbeamlaw21_SchedKeeps.B10 : List Nat := [0, 1, 3, 7, 15, 31, 63, 127, 255, 511, 255, 2047, 4095, 8191, 16383]
theorem hornbeamlaw21_SchedKeeps.tab10 : rtab .any (opsOf Try.f12 10) = hornbeamlaw21_SchedKeeps.T10 := by kernel_rfl
theorem hornbeamlaw21_SchedKeeps.bits10 : waitsOk hornbeamlaw21_SchedKeeps.T10.2 hornbeamlaw21_SchedKeeps.B10 = true := by kernel_rfl
set_option maxHeartbeats 8000000 in
set_option maxRecDepth 100000 in
theorem hornbeamlaw21_SchedKeeps.calls (k : Nat) (a0_0 : Int) (a0_1 : Int) (a0_2 : Int) (A0_3 : Option Addr) (c0_3 : Nat) (l0_3 : List Int) (A0_4 : Option Addr) (c0_4 : Nat) (l0_4 : List Bool) (a0_5 : Bool) (r : Bool) (w : World) (hr0_3 : Kd.C (Kd.int .i64) w A0_3 l0_3.length l0_3) (hc0_3 : l0_3.length ≤ c0_3) (hr0_4 : Kd.C Kd.bool w A0_4 l0_4.length l0_4) (hc0_4 : l0_4.length ≤ c0_4) (h : hornbeamlaw21_SchedKeeps.f k a0_0 a0_1 a0_2 l0_3 l0_4 a0_5 = some r) (hr_ : r = true) :
    Calls Try.prog 12 #[.agg #[.int .i64 a0_0, .int .i64 a0_1, .int .i64 a0_2, .slice A0_3 l0_3.length c0_3, .slice A0_4 l0_4.length c0_4, .bool a0_5]] w fun e w' => e = .returned (.bool r) ∧ Below w.heap.size w w' := by
  have hu42 := Try.underlying42
  have hu52 := Try.underlying52
  have HR_ := Aside0.mk hr_
  clear hr_
  have HR0_3 := Aside0.mk hr0_3
  have HC0_3 := Aside0.mk hc0_3
  clear hr0_3 hc0_3
  have HR0_4 := Aside0.mk hr0_4
  have HC0_4 := Aside0.mk hc0_4
  clear hr0_4 hc0_4
  have HB := Aside0.mk (Below.refl w.heap.size w)
  have H : (if (l0_4.length : Int) > 200 then (hornbeamlaw21_SchedKeeps.j0 k true a0_0 a0_1 a0_2 l0_3 l0_4 a0_5) else (if (l0_3.length : Int) > 200 then (hornbeamlaw21_SchedKeeps.j0 k true a0_0 a0_1 a0_2 l0_3 l0_4 a0_5) else ((sched_May.f k a0_0 a0_1 a0_2 l0_3 l0_4 a0_5).bind fun t196 => (hornbeamlaw21_SchedKeeps.j0 k (!t196) a0_0 a0_1 a0_2 l0_3 l0_4 a0_5)))) = some r := h
  clear h
  have HC2 := Aside0.mk H
  clear H
  go_enter Try.func12, Try.ntmps12
  go_upto_region 1 with (first | ((with_reducible refine gate_dst (N := 1) rfl ?_); (try (refine gate_guard (by rfl) ?_; dsimp only)); refine box_event ?hg (N := 1) ?hd (cs := #[.int .i64 a0_0, .int .i64 a0_1, .int .i64 a0_2, .slice A0_3 l0_3.length c0_3, .slice A0_4 l0_4.length c0_4, .bool a0_5]) (t := 42) ?hr ?_; (case hd => rfl); (case hg => rfl); (case hr => first | (go_simp; done) | (go_simp; rfl)); intro gb195 hg w3 hbox hb; have n0_ := Aside0.mk (below_step (by repeat (first | (with_reducible first | exact HB.out | apply below_alloc | apply pw_below_drewN | apply below_drew1) | exact HB.out)) hb); have n1_ := Aside0.mk (hbox); have n2_ := Aside0.mk ((by rw [hg]; exact (below_size (by repeat (first | (with_reducible first | exact HB.out | apply below_alloc | apply pw_below_drewN | apply below_drew1) | exact HB.out))) : w.heap.size ≤ gb195)); have n3_ := Aside0.mk ((by rw [hg]; exact (below_size (by repeat (first | (with_reducible first | exact HB.out | apply below_alloc | apply pw_below_drewN | apply below_drew1) | exact HB.out))) : w.heap.size ≤ gb195)); clear HB; have HB := n0_; have BK195 := n1_; have GW195 := n2_; have GE195 := n3_; clear n0_ n1_ n2_ n3_; clear hb hbox hg))
  (try simp only [Act.put, List.setIfInBounds_toArray, List.set_cons_zero, List.set_cons_succ])
  go_cut [23] (fun v23 wc => ∃ (kq : Nat) (x23_1 : Bool), v23 = .bool x23_1 ∧ Aside0 (hornbeamlaw21_SchedKeeps.j0 kq x23_1 a0_0 a0_1 a0_2 l0_3 l0_4 a0_5 = some r) ∧ Aside0 (kq ≤ k) ∧ Aside0 (wc.heap[gb195]? = some (.cells #[.int .i64 a0_0, .int .i64 a0_1, .int .i64 a0_2, (.slice A0_3 l0_3.length c0_3), (.slice A0_4 l0_4.length c0_4), .bool a0_5] 42 (0, 0))) ∧ Aside0 (Below w.heap.size w wc))
  case first =>
    have H := HC2.out
    clear HC2
    by_cases c4 : (l0_4.length : Int) > 200
    · rw [if_pos c4] at H
      have c4b0 : decide (200 < (l0_4.length : Int)) = true := decide_eq_true c4
      have c4b1 : decide (200 < l0_4.length) = true := decide_eq_true (by omega)
      clear c4
      (first | rw [c4b0] | (simp only [i64_w, i32_w]; rw [c4b0]) | skip)
      have H' := Aside0.mk H
      clear H
      have hcz5_0 : w3.cell? ⟨gb195, 0, none⟩ = some (.int .i64 a0_0) := (blk_cell BK195.out 0).trans rfl
      have hcz5_1 : w3.cell? ⟨gb195, 1, none⟩ = some (.int .i64 a0_1) := (blk_cell BK195.out 1).trans rfl
      have hcz5_2 : w3.cell? ⟨gb195, 2, none⟩ = some (.int .i64 a0_2) := (blk_cell BK195.out 2).trans rfl
      have hcz5_3 : w3.cell? ⟨gb195, 3, none⟩ = some (.slice A0_3 l0_3.length c0_3) := (blk_cell BK195.out 3).trans rfl
      have hcz5_4 : w3.cell? ⟨gb195, 4, none⟩ = some (.slice A0_4 l0_4.length c0_4) := (blk_cell BK195.out 4).trans rfl
      have hcz5_5 : w3.cell? ⟨gb195, 5, none⟩ = some (.bool a0_5) := (blk_cell BK195.out 5).trans rfl
      have hfz5_0 := blk_frozen BK195.out 0
      have hfz5_1 := blk_frozen BK195.out 1
      have hfz5_2 := blk_frozen BK195.out 2
      have hfz5_3 := blk_frozen BK195.out 3
      have hfz5_4 := blk_frozen BK195.out 4
      have hfz5_5 := blk_frozen BK195.out 5
      go_wp2
      go_meet
      case rel => exact ⟨_, (true), (by first | rfl | (simp; done) | (simp [*]; done)), H', ⟨by first | omega | exact Nat.le_refl _⟩, ⟨by (with_reducible repeat (first | refine blk_drewN ?_ _ | refine blk_drew ?_ | refine blk_alloc ?_ _)); exact BK195.out⟩, ⟨by repeat (first | (with_reducible first | exact HB.out | apply below_alloc | apply pw_below_drewN | apply below_drew1 | refine below_set ?_ GE195.out) | exact HB.out)⟩⟩
    · rw [if_neg c4] at H
      have c4b0 : decide (200 < (l0_4.length : Int)) = false := decide_eq_false c4
      have c4b1 : decide (200 < l0_4.length) = false := decide_eq_false (by omega)
      clear c4
      (first | rw [c4b0] | (simp only [i64_w, i32_w]; rw [c4b0]) | skip)
      by_cases c6 : (l0_3.length : Int) > 200
      · rw [if_pos c6] at H
        have c6b0 : decide (200 < (l0_3.length : Int)) = true := decide_eq_true c6
        have c6b1 : decide (200 < l0_3.length) = true := decide_eq_true (by omega)
        clear c6
        have H' := Aside0.mk H
        clear H
        have hcz7_0 : w3.cell? ⟨gb195, 0, none⟩ = some (.int .i64 a0_0) := (blk_cell BK195.out 0).trans rfl
        have hcz7_1 : w3.cell? ⟨gb195, 1, none⟩ = some (.int .i64 a0_1) := (blk_cell BK195.out 1).trans rfl
        have hcz7_2 : w3.cell? ⟨gb195, 2, none⟩ = some (.int .i64 a0_2) := (blk_cell BK195.out 2).trans rfl
        have hcz7_3 : w3.cell? ⟨gb195, 3, none⟩ = some (.slice A0_3 l0_3.length c0_3) := (blk_cell BK195.out 3).trans rfl
        have hcz7_4 : w3.cell? ⟨gb195, 4, none⟩ = some (.slice A0_4 l0_4.length c0_4) := (blk_cell BK195.out 4).trans rfl
        have hcz7_5 : w3.cell? ⟨gb195, 5, none⟩ = some (.bool a0_5) := (blk_cell BK195.out 5).trans rfl
        have hfz7_0 := blk_frozen BK195.out 0
        have hfz7_1 := blk_frozen BK195.out 1
        have hfz7_2 := blk_frozen BK195.out 2
        have hfz7_3 := blk_frozen BK195.out 3
        have hfz7_4 := blk_frozen BK195.out 4
        have hfz7_5 := blk_frozen BK195.out 5
        go_wp2
        go_meet
        case rel => exact ⟨_, (true), (by first | rfl | (simp; done) | (simp [*]; done)), H', ⟨by first | omega | exact Nat.le_refl _⟩, ⟨by (with_reducible repeat (first | refine blk_drewN ?_ _ | refine blk_drew ?_ | refine blk_alloc ?_ _)); exact BK195.out⟩, ⟨by repeat (first | (with_reducible first | exact HB.out | apply below_alloc | apply pw_below_drewN | apply below_drew1 | refine below_set ?_ GE195.out) | exact HB.out)⟩⟩
      · rw [if_neg c6] at H
        have c6b0 : decide (200 < (l0_3.length : Int)) = false := decide_eq_false c6
        have c6b1 : decide (200 < l0_3.length) = false := decide_eq_false (by omega)
        clear c6
        replace H := Option.bind_eq_some_iff.mp H
        obtain ⟨t196, A80, H⟩ := H
        replace H : (hornbeamlaw21_SchedKeeps.j0 k (!t196) a0_0 a0_1 a0_2 l0_3 l0_4 a0_5) = some r := H
        have A8 := Aside0.mk A80
        clear A80
        have H' := Aside0.mk H
        clear H
        have hcz9_0 : w3.cell? ⟨gb195, 0, none⟩ = some (.int .i64 a0_0) := (blk_cell BK195.out 0).trans rfl
        have hcz9_1 : w3.cell? ⟨gb195, 1, none⟩ = some (.int .i64 a0_1) := (blk_cell BK195.out 1).trans rfl
        have hcz9_2 : w3.cell? ⟨gb195, 2, none⟩ = some (.int .i64 a0_2) := (blk_cell BK195.out 2).trans rfl
        have hcz9_3 : w3.cell? ⟨gb195, 3, none⟩ = some (.slice A0_3 l0_3.length c0_3) := (blk_cell BK195.out 3).trans rfl
        have hcz9_4 : w3.cell? ⟨gb195, 4, none⟩ = some (.slice A0_4 l0_4.length c0_4) := (blk_cell BK195.out 4).trans rfl
        have hcz9_5 : w3.cell? ⟨gb195, 5, none⟩ = some (.bool a0_5) := (blk_cell BK195.out 5).trans rfl
        have hfz9_0 := blk_frozen BK195.out 0
        have hfz9_1 := blk_frozen BK195.out 1
        have hfz9_2 := blk_frozen BK195.out 2
        have hfz9_3 := blk_frozen BK195.out 3
        have hfz9_4 := blk_frozen BK195.out 4
        have hfz9_5 := blk_frozen BK195.out 5
        go_wp2_with (first | (go_at_call 35; (with_reducible refine (sched_May.calls k a0_0 a0_1 a0_2 _ _ l0_3 _ _ l0_4 a0_5 t196 _ ?side1 ?side2 ?side3 ?side4 A8.out).mono ?_); (case side1 => repeat (first | exact (Kd.C_below HR0_3.out HB.out) | (with_reducible refine Kd.C_alloc ?_ _) | (with_reducible refine Kd.C_drewN ?_ _) | (with_reducible refine Kd.C_drew ?_))); (case side2 => exact HC0_3.out); (case side3 => repeat (first | exact (Kd.C_below HR0_4.out HB.out) | (with_reducible refine Kd.C_alloc ?_ _) | (with_reducible refine Kd.C_drewN ?_ _) | (with_reducible refine Kd.C_drew ?_))); (case side4 => exact HC0_4.out); rintro e w10 ⟨rfl, hb⟩; have n0_ := Aside0.mk (blk_below (g := gb195) (o := .cells #[.int .i64 a0_0, .int .i64 a0_1, .int .i64 a0_2, .slice A0_3 l0_3.length c0_3, .slice A0_4 l0_4.length c0_4, .bool a0_5] 42 (0, 0)) (by (with_reducible repeat (first | refine blk_drewN ?_ _ | refine blk_drew ?_ | refine blk_alloc ?_ _)); exact BK195.out) hb); have n1_ := Aside0.mk (below_step (by repeat (first | (with_reducible first | exact HB.out | apply below_alloc | apply pw_below_drewN | apply below_drew1 | refine below_set ?_ GE195.out) | exact HB.out)) hb); clear BK195; clear HB; have BK195 := n0_; have HB := n1_; clear n0_ n1_; (try clear hb); (try clear hb2); (try clear hk); (try clear hi)))
        go_meet
        case rel => exact ⟨_, (!t196), (by first | rfl | (simp; done) | (simp [*]; done)), H', ⟨by first | omega | exact Nat.le_refl _⟩, ⟨by (with_reducible repeat (first | refine blk_drewN ?_ _ | refine blk_drew ?_ | refine blk_alloc ?_ _)); exact BK195.out⟩, ⟨by repeat (first | (with_reducible first | exact HB.out | apply below_alloc | apply pw_below_drewN | apply below_drew1 | refine below_set ?_ GE195.out) | exact HB.out)⟩⟩
  case rest =>
    clear HC2
    try clear c1
    try clear p2
    try clear c4
    try clear c4b0
    try clear c4b1
    try clear c6
    try clear c6b0
    try clear c6b1
    try clear hcz5_0
    try clear hcz5_1
    try clear hcz5_2
    try clear hcz5_3
    try clear hcz5_4
    try clear hcz5_5
    try clear hcz7_0
    try clear hcz7_1
    try clear hcz7_2
    try clear hcz7_3
    try clear hcz7_4
    try clear hcz7_5
    try clear hcz9_0
    try clear hcz9_1
    try clear hcz9_2
    try clear hcz9_3
    try clear hcz9_4
    try clear hcz9_5
    try clear hfz5_0
    try clear hfz5_1
    try clear hfz5_2
    try clear hfz5_3
    try clear hfz5_4
    try clear hfz5_5
    try clear hfz7_0
    try clear hfz7_1
    try clear hfz7_2
    try clear hfz7_3
    try clear hfz7_4
    try clear hfz7_5
    try clear hfz9_0
    try clear hfz9_1
    try clear hfz9_2
    try clear hfz9_3
    try clear hfz9_4
    try clear hfz9_5
    obtain ⟨kq, x23_1, rfl, HA, HJ1, BK195, HB⟩ := hcut
    cases kq with
    | zero => exact absurd HA.out (by simp [hornbeamlaw21_SchedKeeps.j0])
    | succ kj1 =>
      have H := HA.out
      clear HA
      simp only [hornbeamlaw21_SchedKeeps.j0] at H
      by_cases c11 : x23_1 = true
      · subst c11
        have H1 : ((hornbeamlaw21_fixed.f kj1).bind fun t197 => (some t197)) = some r := by rw [if_pos rfl] at H; exact H
        clear H
        have H := H1
        clear H1
        replace H := Option.bind_eq_some_iff.mp H
        obtain ⟨t197, A120, H⟩ := H
        replace H : (some t197) = some r := H
        have A12 := Aside0.mk A120
        clear A120
        obtain rfl := Option.some.inj H
        go_wp2_with (first | ((with_reducible refine gate_callee (f := 21) rfl ?_); refine goesL_ (some 24) rfl rfl Try.func21 (by kernel_rfl) rfl #[] rfl (by (try simp only [List.map_toArray, List.map_cons, List.map_nil]); first | done | rfl | (simp only [List.length_drop, List.length_take]; rfl)) ?_; (with_reducible refine (hornbeamlaw21_fixed.calls kj1  t197 _ A12.out).mono ?_); rintro e w13 ⟨rfl, hb⟩; refine ⟨_, rfl, ?_⟩; have n0_ := Aside0.mk (blk_below (g := gb195) (o := .cells #[.int .i64 a0_0, .int .i64 a0_1, .int .i64 a0_2, .slice A0_3 l0_3.length c0_3, .slice A0_4 l0_4.length c0_4, .bool a0_5] 42 (0, 0)) (by (with_reducible repeat (first | refine blk_drewN ?_ _ | refine blk_drew ?_ | refine blk_alloc ?_ _)); exact BK195.out) hb); have n1_ := Aside0.mk (below_step (by repeat (first | (with_reducible first | exact HB.out | apply below_alloc | apply pw_below_drewN | apply below_drew1 | refine below_set ?_ GE195.out) | exact HB.out)) hb); clear BK195; clear HB; have BK195 := n0_; have HB := n1_; clear n0_ n1_; (try clear hb); (try clear hb2); (try clear hk); (try clear hi)))
        all_goals (go_ret; exact ⟨by first | rfl | (simp [errW_none, errW_some] <;> rfl) | (simp [*, errW_none, errW_some] <;> rfl) | (simp_all; done), by repeat (first | (with_reducible first | exact HB.out | apply below_alloc | apply pw_below_drewN | apply below_drew1 | refine below_set ?_ GE195.out) | exact HB.out)⟩)
      · replace c11 := Bool.eq_false_iff.mpr c11
        subst c11
        have H1 : ((sched_Ready.f kj1 a0_0 a0_1 a0_2 l0_3 l0_4 a0_5).bind fun t198 => ((hornbeamlaw21_left.f kj1 a0_0 a0_1 a0_2 l0_3 l0_4 a0_5).bind fun t201 => (if (((t198.length : Int) == 0) != (t201 == 0)) = true then (some false) else (hornbeamlaw21_SchedKeeps.l0 kj1 t198 (t198.length : Int) 0 a0_0 a0_1 a0_2 l0_3 l0_4 a0_5)))) = some r := by rw [if_neg (show ¬ (false = true) by decide)] at H; exact H
        clear H
        have H := H1
        clear H1
        replace H := Option.bind_eq_some_iff.mp H
        obtain ⟨t198, A140, H⟩ := H
        replace H : ((hornbeamlaw21_left.f kj1 a0_0 a0_1 a0_2 l0_3 l0_4 a0_5).bind fun t201 => (if (((t198.length : Int) == 0) != (t201 == 0)) = true then (some false) else (hornbeamlaw21_SchedKeeps.l0 kj1 t198 (t198.length : Int) 0 a0_0 a0_1 a0_2 l0_3 l0_4 a0_5))) = some r := H
        have A14 := Aside0.mk A140
        clear A140
        replace H := Option.bind_eq_some_iff.mp H
        obtain ⟨t201, A150, H⟩ := H
        replace H : (if (((t198.length : Int) == 0) != (t201 == 0)) = true then (some false) else (hornbeamlaw21_SchedKeeps.l0 kj1 t198 (t198.length : Int) 0 a0_0 a0_1 a0_2 l0_3 l0_4 a0_5)) = some r := H
        have A15 := Aside0.mk A150
        clear A150
        by_cases c16 : (((t198.length : Int) == 0) != (t201 == 0)) = true
        · rw [if_pos c16] at H
          have c16b0 : (((t198.length : Int) == 0) != (t201 == 0)) = true := c16
          (try (have c16b1 : decide (((t198.length : Int) == 0) = (t201 == 0)) = false := by simpa using c16))
          (try (have c16b2 : (((t198.length : Int) == 0) == (t201 == 0)) = false := by simpa using c16))
          (try (have c16b3 : ¬ (((t198.length : Int) == 0) = (t201 == 0)) := by simpa using c16))
          clear c16
          exact absurd (Option.some.inj H) (by rw [HR_.out]; decide)
        · rw [if_neg c16] at H
          have c16b0 : (((t198.length : Int) == 0) != (t201 == 0)) = false := by simpa using c16
          (try (have c16b1 : decide (((t198.length : Int) == 0) = (t201 == 0)) = true := by simpa using c16))
          (try (have c16b2 : (((t198.length : Int) == 0) == (t201 == 0)) = true := by simpa using c16))
          clear c16
          have H' := Aside0.mk H
          clear H
          have hcz17_0 : wc.cell? ⟨gb195, 0, none⟩ = some (.int .i64 a0_0) := (blk_cell BK195.out 0).trans rfl
          have hcz17_1 : wc.cell? ⟨gb195, 1, none⟩ = some (.int .i64 a0_1) := (blk_cell BK195.out 1).trans rfl
          have hcz17_2 : wc.cell? ⟨gb195, 2, none⟩ = some (.int .i64 a0_2) := (blk_cell BK195.out 2).trans rfl
          have hcz17_3 : wc.cell? ⟨gb195, 3, none⟩ = some (.slice A0_3 l0_3.length c0_3) := (blk_cell BK195.out 3).trans rfl
          have hcz17_4 : wc.cell? ⟨gb195, 4, none⟩ = some (.slice A0_4 l0_4.length c0_4) := (blk_cell BK195.out 4).trans rfl
          have hcz17_5 : wc.cell? ⟨gb195, 5, none⟩ = some (.bool a0_5) := (blk_cell BK195.out 5).trans rfl
          have hfz17_0 := blk_frozen BK195.out 0
          have hfz17_1 := blk_frozen BK195.out 1
          have hfz17_2 := blk_frozen BK195.out 2
          have hfz17_3 := blk_frozen BK195.out 3
          have hfz17_4 := blk_frozen BK195.out 4
          have hfz17_5 := blk_frozen BK195.out 5
          go_wp2_with (first | ((with_reducible refine gate_callee (f := 34) rfl ?_); refine goesL_ (some 26) rfl rfl Try.func34 (by kernel_rfl) rfl #[.agg #[.int .i64 a0_0, .int .i64 a0_1, .int .i64 a0_2, .slice A0_3 l0_3.length c0_3, .slice A0_4 l0_4.length c0_4, .bool a0_5]] rfl (by (try simp only [List.map_toArray, List.map_cons, List.map_nil]); first | done | rfl | (simp only [List.length_drop, List.length_take]; rfl)) ?_; (with_reducible refine (sched_Ready.calls kj1 a0_0 a0_1 a0_2 _ _ l0_3 _ _ l0_4 a0_5 t198 _ ?side1 ?side2 ?side3 ?side4 A14.out).mono ?_); (case side1 => repeat (first | exact (Kd.C_below HR0_3.out HB.out) | (with_reducible refine Kd.C_alloc ?_ _) | (with_reducible refine Kd.C_drewN ?_ _) | (with_reducible refine Kd.C_drew ?_))); (case side2 => exact HC0_3.out); (case side3 => repeat (first | exact (Kd.C_below HR0_4.out HB.out) | (with_reducible refine Kd.C_alloc ?_ _) | (with_reducible refine Kd.C_drewN ?_ _) | (with_reducible refine Kd.C_drew ?_))); (case side4 => exact HC0_4.out); rintro e w18 ⟨v199, rfl, ho0, hb⟩; refine ⟨_, rfl, ?_⟩; have n0_ := Aside0.mk (Kd.R_lower ho0 (below_size (by repeat (first | (with_reducible first | exact HB.out | apply below_alloc | apply pw_below_drewN | apply below_drew1 | refine below_set ?_ GE195.out) | exact HB.out)))); have n1_ := Aside0.mk (blk_below (g := gb195) (o := .cells #[.int .i64 a0_0, .int .i64 a0_1, .int .i64 a0_2, .slice A0_3 l0_3.length c0_3, .slice A0_4 l0_4.length c0_4, .bool a0_5] 42 (0, 0)) (by (with_reducible repeat (first | refine blk_drewN ?_ _ | refine blk_drew ?_ | refine blk_alloc ?_ _)); exact BK195.out) hb); have n2_ := Aside0.mk (below_step (by repeat (first | (with_reducible first | exact HB.out | apply below_alloc | apply pw_below_drewN | apply below_drew1 | refine below_set ?_ GE195.out) | exact HB.out)) hb); clear BK195; clear HB; have HO200 := n0_; have BK195 := n1_; have HB := n2_; clear n0_ n1_ n2_; (try clear hb); (try clear hb2); (try clear hk); (try clear hi); (try clear ho0); obtain ⟨Ao19, co19, eo19⟩ := Kd.R_slice HO200.out; subst eo19; have hcz20_0 : w18.cell? ⟨gb195, 0, none⟩ = some (.int .i64 a0_0) := (blk_cell BK195.out 0).trans rfl; have hcz20_1 : w18.cell? ⟨gb195, 1, none⟩ = some (.int .i64 a0_1) := (blk_cell BK195.out 1).trans rfl; have hcz20_2 : w18.cell? ⟨gb195, 2, none⟩ = some (.int .i64 a0_2) := (blk_cell BK195.out 2).trans rfl; have hcz20_3 : w18.cell? ⟨gb195, 3, none⟩ = some (.slice A0_3 l0_3.length c0_3) := (blk_cell BK195.out 3).trans rfl; have hcz20_4 : w18.cell? ⟨gb195, 4, none⟩ = some (.slice A0_4 l0_4.length c0_4) := (blk_cell BK195.out 4).trans rfl; have hcz20_5 : w18.cell? ⟨gb195, 5, none⟩ = some (.bool a0_5) := (blk_cell BK195.out 5).trans rfl; have hfz20_0 := blk_frozen BK195.out 0; have hfz20_1 := blk_frozen BK195.out 1; have hfz20_2 := blk_frozen BK195.out 2; have hfz20_3 := blk_frozen BK195.out 3; have hfz20_4 := blk_frozen BK195.out 4; have hfz20_5 := blk_frozen BK195.out 5) | ((with_reducible refine gate_callee (f := 41) rfl ?_); refine goesL_ (some 31) rfl rfl Try.func41 (by kernel_rfl) rfl #[.agg #[.int .i64 a0_0, .int .i64 a0_1, .int .i64 a0_2, .slice A0_3 l0_3.length c0_3, .slice A0_4 l0_4.length c0_4, .bool a0_5]] rfl (by (try simp only [List.map_toArray, List.map_cons, List.map_nil]); first | done | rfl | (simp only [List.length_drop, List.length_take]; rfl)) ?_; (with_reducible refine (hornbeamlaw21_left.calls kj1 a0_0 a0_1 a0_2 _ _ l0_3 _ _ l0_4 a0_5 t201 _ ?side1 ?side2 ?side3 ?side4 A15.out).mono ?_); (case side1 => repeat (first | exact (Kd.C_below HR0_3.out HB.out) | (with_reducible refine Kd.C_alloc ?_ _) | (with_reducible refine Kd.C_drewN ?_ _) | (with_reducible refine Kd.C_drew ?_))); (case side2 => exact HC0_3.out); (case side3 => repeat (first | exact (Kd.C_below HR0_4.out HB.out) | (with_reducible refine Kd.C_alloc ?_ _) | (with_reducible refine Kd.C_drewN ?_ _) | (with_reducible refine Kd.C_drew ?_))); (case side4 => exact HC0_4.out); rintro e w21 ⟨rfl, hb⟩; refine ⟨_, rfl, ?_⟩; have n0_ := Aside0.mk (Kd.R_below (by (with_reducible repeat (first | apply Kd.R_alloc | apply Kd.R_drewN | apply Kd.R_drew)); exact HO200.out) hb); have n1_ := Aside0.mk (blk_below (g := gb195) (o := .cells #[.int .i64 a0_0, .int .i64 a0_1, .int .i64 a0_2, .slice A0_3 l0_3.length c0_3, .slice A0_4 l0_4.length c0_4, .bool a0_5] 42 (0, 0)) (by (with_reducible repeat (first | refine blk_drewN ?_ _ | refine blk_drew ?_ | refine blk_alloc ?_ _)); exact BK195.out) hb); have n2_ := Aside0.mk (below_step (by repeat (first | (with_reducible first | exact HB.out | apply below_alloc | apply pw_below_drewN | apply below_drew1 | refine below_set ?_ GE195.out) | exact HB.out)) hb); clear HO200; clear BK195; clear HB; have HO200 := n0_; have BK195 := n1_; have HB := n2_; clear n0_ n1_ n2_; (try clear hb); (try clear hb2); (try clear hk); (try clear hi)))
          go_loopg [36] kj1 (fun kq v36 w' => ∃ (x36_2 : Int), v36 = .int .i64 x36_2 ∧ Aside0 (hornbeamlaw21_SchedKeeps.l0 kq t198 (t198.length : Int) x36_2 a0_0 a0_1 a0_2 l0_3 l0_4 a0_5 = some r) ∧ Aside0 (kq ≤ kj1) ∧ Aside0 (Kd.R (Kd.int .i64) 3 w' w.heap.size (fun _ => True) (.slice Ao19 t198.length co19) t198) ∧ Aside0 (w'.heap[gb195]? = some (.cells #[.int .i64 a0_0, .int .i64 a0_1, .int .i64 a0_2, (.slice A0_3 l0_3.length c0_3), (.slice A0_4 l0_4.length c0_4), .bool a0_5] 42 (0, 0))) ∧ Aside0 (Below w.heap.size w w'))
          case atStart => exact ⟨(0), (by first | rfl | (simp; done) | (simp [*]; done)), H', ⟨Nat.le_refl _⟩, ⟨by (with_reducible repeat (first | apply Kd.R_alloc | apply Kd.R_drewN | apply Kd.R_drew)); exact HO200.out⟩, ⟨by (with_reducible repeat (first | refine blk_drewN ?_ _ | refine blk_drew ?_ | refine blk_alloc ?_ _)); exact BK195.out⟩, ⟨by repeat (first | (with_reducible first | exact HB.out | apply below_alloc | apply pw_below_drewN | apply below_drew1 | refine below_set ?_ GE195.out) | exact HB.out)⟩⟩
          case round =>
            clear H'
            try clear c1
            try clear c2
            try clear p2
            try clear c3
            try clear c4
            try clear c4b0
            try clear c4b1
            try clear c6
            try clear c6b0
            try clear c6b1
            try clear c11
            try clear c12
            try clear c16
            try clear c16b0
            try clear c16b1
            try clear c16b2
            try clear c21
            try clear hcz17_0
            try clear hcz17_1
            try clear hcz17_2
            try clear hcz17_3
            try clear hcz17_4
            try clear hcz17_5
            try clear hcz20_0
            try clear hcz20_1
            try clear hcz20_2
            try clear hcz20_3
            try clear hcz20_4
            try clear hcz20_5
            try clear hcz5_0
            try clear hcz5_1
            try clear hcz5_2
            try clear hcz5_3
            try clear hcz5_4
            try clear hcz5_5
            try clear hcz7_0
            try clear hcz7_1
            try clear hcz7_2
            try clear hcz7_3
            try clear hcz7_4
            try clear hcz7_5
            try clear hcz9_0
            try clear hcz9_1
            try clear hcz9_2
            try clear hcz9_3
            try clear hcz9_4
            try clear hcz9_5
            try clear hfz17_0
            try clear hfz17_1
            try clear hfz17_2
            try clear hfz17_3
            try clear hfz17_4
            try clear hfz17_5
            try clear hfz20_0
            try clear hfz20_1
            try clear hfz20_2
            try clear hfz20_3
            try clear hfz20_4
            try clear hfz20_5
            try clear hfz5_0
            try clear hfz5_1
            try clear hfz5_2
            try clear hfz5_3
            try clear hfz5_4
            try clear hfz5_5
            try clear hfz7_0
            try clear hfz7_1
            try clear hfz7_2
            try clear hfz7_3
            try clear hfz7_4
            try clear hfz7_5
            try clear hfz9_0
            try clear hfz9_1
            try clear hfz9_2
            try clear hfz9_3
            try clear hfz9_4
            try clear hfz9_5
            try clear p2
            obtain ⟨x36_2, rfl, HA, HK2, HO_34, BK195, HB⟩ := hrel
            cases gk with
            | zero => exact absurd HA.out (by simp [hornbeamlaw21_SchedKeeps.l0])
            | succ k2 =>
              have H := HA.out
              clear HA
              simp only [hornbeamlaw21_SchedKeeps.l0] at H
              by_cases c22 : x36_2 < (t198.length : Int)
              · rw [if_pos c22] at H
                have c22b0 : decide (x36_2 < (t198.length : Int)) = true := decide_eq_true c22
                clear c22
                by_cases c23 : 0 ≤ x36_2
                · rw [if_pos c23] at H
                  have c23b0 : decide (0 ≤ x36_2) = true := decide_eq_true c23
                  clear c23
                  by_cases c24 : x36_2 < (t198.length : Int)
                  · rw [if_pos c24] at H
                    have c24b0 : decide (x36_2 < (t198.length : Int)) = true := decide_eq_true c24
                    clear c24
                    replace H := Option.bind_eq_some_iff.mp H
                    obtain ⟨⟨t204, t205, t206, t207, t210, t213, t214, t215, t216, t217⟩, A250, H⟩ := H
                    replace H : (if t217 = 0 then ((sched_May.f k2 t204 t205 t206 t207 t210 t213).bind fun t220 => (if t220 = true then ((hornbeamlaw21_left.f k2 t204 t205 t206 t207 t210 t213).bind fun t221 => ((hornbeamlaw21_left.f k2 a0_0 a0_1 a0_2 l0_3 l0_4 a0_5).bind fun t222 => (if t221 = (wrap64 (t222 - 1)) then (hornbeamlaw21_SchedKeeps.l0 k2 t198 (t198.length : Int) (wrap64 (x36_2 + 1)) a0_0 a0_1 a0_2 l0_3 l0_4 a0_5) else (some false)))) else (some false))) else (some false)) = some r := H
                    have A25 := Aside0.mk A250
                    clear A250
                    by_cases c26 : t217 = 0
                    · rw [if_pos c26] at H
                      have c26b0 : (t217 == 0) = true := beq_iff_eq.mpr c26
                      have c26b1 : (t217 != 0) = false := bne_eq_false_iff_eq.mpr c26
                      clear c26
                      replace H := Option.bind_eq_some_iff.mp H
                      obtain ⟨t220, A270, H⟩ := H
                      replace H : (if t220 = true then ((hornbeamlaw21_left.f k2 t204 t205 t206 t207 t210 t213).bind fun t221 => ((hornbeamlaw21_left.f k2 a0_0 a0_1 a0_2 l0_3 l0_4 a0_5).bind fun t222 => (if t221 = (wrap64 (t222 - 1)) then (hornbeamlaw21_SchedKeeps.l0 k2 t198 (t198.length : Int) (wrap64 (x36_2 + 1)) a0_0 a0_1 a0_2 l0_3 l0_4 a0_5) else (some false)))) else (some false)) = some r := H
                      have A27 := Aside0.mk A270
                      clear A270
                      by_cases c28 : t220 = true
                      · subst c28
                        have H1 : ((hornbeamlaw21_left.f k2 t204 t205 t206 t207 t210 t213).bind fun t221 => ((hornbeamlaw21_left.f k2 a0_0 a0_1 a0_2 l0_3 l0_4 a0_5).bind fun t222 => (if t221 = (wrap64 (t222 - 1)) then (hornbeamlaw21_SchedKeeps.l0 k2 t198 (t198.length : Int) (wrap64 (x36_2 + 1)) a0_0 a0_1 a0_2 l0_3 l0_4 a0_5) else (some false)))) = some r := by rw [if_pos rfl] at H; exact H
                        clear H
                        have H := H1
                        clear H1
                        replace H := Option.bind_eq_some_iff.mp H
                        obtain ⟨t221, A290, H⟩ := H
                        replace H : ((hornbeamlaw21_left.f k2 a0_0 a0_1 a0_2 l0_3 l0_4 a0_5).bind fun t222 => (if t221 = (wrap64 (t222 - 1)) then (hornbeamlaw21_SchedKeeps.l0 k2 t198 (t198.length : Int) (wrap64 (x36_2 + 1)) a0_0 a0_1 a0_2 l0_3 l0_4 a0_5) else (some false))) = some r := H
                        have A29 := Aside0.mk A290
                        clear A290
                        replace H := Option.bind_eq_some_iff.mp H
                        obtain ⟨t222, A300, H⟩ := H
                        replace H : (if t221 = (wrap64 (t222 - 1)) then (hornbeamlaw21_SchedKeeps.l0 k2 t198 (t198.length : Int) (wrap64 (x36_2 + 1)) a0_0 a0_1 a0_2 l0_3 l0_4 a0_5) else (some false)) = some r := H
                        have A30 := Aside0.mk A300
                        clear A300
                        by_cases c31 : t221 = (wrap64 (t222 - 1))
                        · rw [if_pos c31] at H
                          have c31b0 : (t221 == (wrap64 (t222 - 1))) = true := beq_iff_eq.mpr c31
                          have c31b1 : (t221 != (wrap64 (t222 - 1))) = false := bne_eq_false_iff_eq.mpr c31
                          clear c31
                          have H' := Aside0.mk H
                          clear H
                          have p203 : 0 ≤ (x36_2 : Int) := of_decide_eq_true (by first | (with_reducible assumption) | assumption)
                          have q203 : x36_2 < (t198.length : Int) := of_decide_eq_true (by first | (with_reducible assumption) | assumption)
                          obtain ⟨ad203, e203, hx203_0⟩ := Kd.at_int (Kd.R_reads' HO_34.out).2.2 x36_2 p203 q203
                          cases e203
                          replace p203 := eq_true p203
                          replace q203 := eq_true q203
                          have hcz32_0 : wr.cell? ⟨gb195, 0, none⟩ = some (.int .i64 a0_0) := (blk_cell BK195.out 0).trans rfl
                          have hcz32_1 : wr.cell? ⟨gb195, 1, none⟩ = some (.int .i64 a0_1) := (blk_cell BK195.out 1).trans rfl
                          have hcz32_2 : wr.cell? ⟨gb195, 2, none⟩ = some (.int .i64 a0_2) := (blk_cell BK195.out 2).trans rfl
                          have hcz32_3 : wr.cell? ⟨gb195, 3, none⟩ = some (.slice A0_3 l0_3.length c0_3) := (blk_cell BK195.out 3).trans rfl
                          have hcz32_4 : wr.cell? ⟨gb195, 4, none⟩ = some (.slice A0_4 l0_4.length c0_4) := (blk_cell BK195.out 4).trans rfl
                          have hcz32_5 : wr.cell? ⟨gb195, 5, none⟩ = some (.bool a0_5) := (blk_cell BK195.out 5).trans rfl
                          have hfz32_0 := blk_frozen BK195.out 0
                          have hfz32_1 := blk_frozen BK195.out 1
                          have hfz32_2 := blk_frozen BK195.out 2
                          have hfz32_3 := blk_frozen BK195.out 3
                          have hfz32_4 := blk_frozen BK195.out 4
                          have hfz32_5 := blk_frozen BK195.out 5
                          try go_wp2_with (first | ((with_reducible refine gate_callee (f := 36) rfl ?_); refine goesL_ (some 43) rfl rfl Try.func36 (by kernel_rfl) rfl #[.agg #[.int .i64 a0_0, .int .i64 a0_1, .int .i64 a0_2, .slice A0_3 l0_3.length c0_3, .slice A0_4 l0_4.length c0_4, .bool a0_5], .int .i64 (rd t198 x36_2)] rfl (by (try simp only [List.map_toArray, List.map_cons, List.map_nil]); first | done | rfl | (simp only [List.length_drop, List.length_take]; rfl)) ?_; (with_reducible refine (sched_Step.calls k2 a0_0 a0_1 a0_2 _ _ l0_3 _ _ l0_4 a0_5 (rd t198 x36_2) t204 t205 t206 t207 t210 t213 t214 t215 t216 t217 _ ?side1 ?side2 ?side3 ?side4 A25.out).mono ?_); (case side1 => repeat (first | exact (Kd.C_below HR0_3.out HB.out) | (with_reducible refine Kd.C_alloc ?_ _) | (with_reducible refine Kd.C_drewN ?_ _) | (with_reducible refine Kd.C_drew ?_))); (case side2 => exact HC0_3.out); (case side3 => repeat (first | exact (Kd.C_below HR0_4.out HB.out) | (with_reducible refine Kd.C_alloc ?_ _) | (with_reducible refine Kd.C_drewN ?_ _) | (with_reducible refine Kd.C_drew ?_))); (case side4 => exact HC0_4.out); rintro e w33 ⟨v208, v211, rfl, ho0, ho1, hb⟩; refine ⟨_, rfl, ?_⟩; have n0_ := Aside0.mk (Kd.R_elder' (by (with_reducible repeat (first | apply Kd.R_alloc | apply Kd.R_drewN | apply Kd.R_drew)); exact HO_34.out) (Kd.R_base ho0) hb); have n1_ := Aside0.mk (Kd.R_lower (Kd.R_new' ho0 (Kd.R_lt (by (with_reducible repeat (first | apply Kd.R_alloc | apply Kd.R_drewN | apply Kd.R_drew)); exact HO_34.out))) (below_size (by repeat (first | (with_reducible first | exact HB.out | apply below_alloc | apply pw_below_drewN | apply below_drew1 | refine below_set ?_ GE195.out) | exact HB.out)))); have n2_ := Aside0.mk (Kd.R_lower ho1 (below_size (by repeat (first | (with_reducible first | exact HB.out | apply below_alloc | apply pw_below_drewN | apply below_drew1 | refine below_set ?_ GE195.out) | exact HB.out)))); have n3_ := Aside0.mk (blk_below (g := gb195) (o := .cells #[.int .i64 a0_0, .int .i64 a0_1, .int .i64 a0_2, .slice A0_3 l0_3.length c0_3, .slice A0_4 l0_4.length c0_4, .bool a0_5] 42 (0, 0)) (by (with_reducible repeat (first | refine blk_drewN ?_ _ | refine blk_drew ?_ | refine blk_alloc ?_ _)); exact BK195.out) hb); have n4_ := Aside0.mk (below_step (by repeat (first | (with_reducible first | exact HB.out | apply below_alloc | apply pw_below_drewN | apply below_drew1 | refine below_set ?_ GE195.out) | exact HB.out)) hb); clear HO_34; clear BK195; clear HB; have HO_34 := n0_; have HO209 := n1_; have HO212 := n2_; have BK195 := n3_; have HB := n4_; clear n0_ n1_ n2_ n3_ n4_; (try clear hb); (try clear hb2); (try clear hk); (try clear hi); (try clear ho0); (try clear ho1)) | ((with_reducible refine gate_dst (N := 6) rfl ?_); (try (refine gate_guard (by rfl) ?_; dsimp only)); refine box_event ?hg (N := 6) ?hd (cs := #[.int .i64 0, .int .i64 0, .int .i64 0, .slice none 0 0, .slice none 0 0, .bool false]) (t := 42) ?hr ?_; (case hd => rfl); (case hg => rfl); (case hr => first | (go_simp; done) | (go_simp; rfl)); intro gb218 hg w34 hbox hb; have n0_ := Aside0.mk (Kd.R_below (by (with_reducible repeat (first | apply Kd.R_alloc | apply Kd.R_drewN | apply Kd.R_drew)); exact HO_34.out) hb); have n1_ := Aside0.mk (Kd.R_below (by (with_reducible repeat (first | apply Kd.R_alloc | apply Kd.R_drewN | apply Kd.R_drew)); exact HO209.out) hb); have n2_ := Aside0.mk (Kd.R_below (by (with_reducible repeat (first | apply Kd.R_alloc | apply Kd.R_drewN | apply Kd.R_drew)); exact HO212.out) hb); have n3_ := Aside0.mk (blk_below (g := gb195) (o := .cells #[.int .i64 a0_0, .int .i64 a0_1, .int .i64 a0_2, .slice A0_3 l0_3.length c0_3, .slice A0_4 l0_4.length c0_4, .bool a0_5] 42 (0, 0)) (by (with_reducible repeat (first | refine blk_drewN ?_ _ | refine blk_drew ?_ | refine blk_alloc ?_ _)); exact BK195.out) hb); have n4_ := Aside0.mk (below_step (by repeat (first | (with_reducible first | exact HB.out | apply below_alloc | apply pw_below_drewN | apply below_drew1 | refine below_set ?_ GE195.out) | exact HB.out)) hb); have n5_ := Aside0.mk (hbox); have n6_ := Aside0.mk ((by rw [hg]; exact (below_size (by repeat (first | (with_reducible first | exact HB.out | apply below_alloc | apply pw_below_drewN | apply below_drew1 | refine below_set ?_ GE195.out) | exact HB.out))) : w.heap.size ≤ gb218)); have n7_ := Aside0.mk ((by rw [hg]; exact (below_size (by repeat (first | (with_reducible first | exact HB.out | apply below_alloc | apply pw_below_drewN | apply below_drew1 | refine below_set ?_ GE195.out) | exact HB.out))) : w.heap.size ≤ gb218)); have n8_ := Aside0.mk ((by rw [hg]; exact Nat.ne_of_lt (blk_lt (g := gb195) (o := .cells #[.int .i64 a0_0, .int .i64 a0_1, .int .i64 a0_2, .slice A0_3 l0_3.length c0_3, .slice A0_4 l0_4.length c0_4, .bool a0_5] 42 (0, 0)) (by (with_reducible repeat (first | refine blk_drewN ?_ _ | refine blk_drew ?_ | refine blk_alloc ?_ _)); exact BK195.out)) : gb195 ≠ gb218)); have n9_ := Aside0.mk ((by rw [hg]; exact Nat.ne_of_gt (blk_lt (g := gb195) (o := .cells #[.int .i64 a0_0, .int .i64 a0_1, .int .i64 a0_2, .slice A0_3 l0_3.length c0_3, .slice A0_4 l0_4.length c0_4, .bool a0_5] 42 (0, 0)) (by (with_reducible repeat (first | refine blk_drewN ?_ _ | refine blk_drew ?_ | refine blk_alloc ?_ _)); exact BK195.out)) : gb218 ≠ gb195)); clear HO_34; clear HO209; clear HO212; clear BK195; clear HB; have HO_34 := n0_; have HO209 := n1_; have HO212 := n2_; have BK195 := n3_; have HB := n4_; have BK218 := n5_; have GW218 := n6_; have GE218 := n7_; have NB195_218 := n8_; have NB218_195 := n9_; clear n0_ n1_ n2_ n3_ n4_ n5_ n6_ n7_ n8_ n9_; clear hb hbox hg) | ((with_reducible refine gate_dst (N := 7) rfl ?_); (try (refine gate_guard (by rfl) ?_; dsimp only)); refine box_event ?hg (N := 7) ?hd (cs := #[.int .i64 0, .int .i64 0, .int .i64 0]) (t := 52) ?hr ?_; (case hd => rfl); (case hg => rfl); (case hr => first | (go_simp; done) | (go_simp; rfl)); intro gb219 hg w35 hbox hb; have n0_ := Aside0.mk (Kd.R_below (by (with_reducible repeat (first | apply Kd.R_alloc | apply Kd.R_drewN | apply Kd.R_drew)); exact HO_34.out) hb); have n1_ := Aside0.mk (Kd.R_below (by (with_reducible repeat (first | apply Kd.R_alloc | apply Kd.R_drewN | apply Kd.R_drew)); exact HO209.out) hb); have n2_ := Aside0.mk (Kd.R_below (by (with_reducible repeat (first | apply Kd.R_alloc | apply Kd.R_drewN | apply Kd.R_drew)); exact HO212.out) hb); have n3_ := Aside0.mk (blk_below (g := gb195) (o := .cells #[.int .i64 a0_0, .int .i64 a0_1, .int .i64 a0_2, .slice A0_3 l0_3.length c0_3, .slice A0_4 l0_4.length c0_4, .bool a0_5] 42 (0, 0)) (by (with_reducible repeat (first | refine blk_drewN ?_ _ | refine blk_drew ?_ | refine blk_alloc ?_ _)); exact BK195.out) hb); have n4_ := Aside0.mk (blk_below (g := gb218) (o := .cells #[.int .i64 0, .int .i64 0, .int .i64 0, .slice none 0 0, .slice none 0 0, .bool false] 42 (0, 0)) (by (with_reducible repeat (first | refine blk_drewN ?_ _ | refine blk_drew ?_ | refine blk_alloc ?_ _)); exact BK218.out) hb); have n5_ := Aside0.mk (below_step (by repeat (first | (with_reducible first | exact HB.out | apply below_alloc | apply pw_below_drewN | apply below_drew1 | refine below_set ?_ GE195.out | refine below_set ?_ GE218.out) | exact HB.out)) hb); have n6_ := Aside0.mk (hbox); have n7_ := Aside0.mk ((by rw [hg]; exact (below_size (by repeat (first | (with_reducible first | exact HB.out | apply below_alloc | apply pw_below_drewN | apply below_drew1 | refine below_set ?_ GE195.out | refine below_set ?_ GE218.out) | exact HB.out))) : w.heap.size ≤ gb219)); have n8_ := Aside0.mk ((by rw [hg]; exact (below_size (by repeat (first | (with_reducible first | exact HB.out | apply below_alloc | apply pw_below_drewN | apply below_drew1 | refine below_set ?_ GE195.out | refine below_set ?_ GE218.out) | exact HB.out))) : w.heap.size ≤ gb219)); have n9_ := Aside0.mk ((by rw [hg]; exact Nat.ne_of_lt (blk_lt (g := gb195) (o := .cells #[.int .i64 a0_0, .int .i64 a0_1, .int .i64 a0_2, .slice A0_3 l0_3.length c0_3, .slice A0_4 l0_4.length c0_4, .bool a0_5] 42 (0, 0)) (by (with_reducible repeat (first | refine blk_drewN ?_ _ | refine blk_drew ?_ | refine blk_alloc ?_ _)); exact BK195.out)) : gb195 ≠ gb219)); have n10_ := Aside0.mk ((by rw [hg]; exact Nat.ne_of_gt (blk_lt (g := gb195) (o := .cells #[.int .i64 a0_0, .int .i64 a0_1, .int .i64 a0_2, .slice A0_3 l0_3.length c0_3, .slice A0_4 l0_4.length c0_4, .bool a0_5] 42 (0, 0)) (by (with_reducible repeat (first | refine blk_drewN ?_ _ | refine blk_drew ?_ | refine blk_alloc ?_ _)); exact BK195.out)) : gb219 ≠ gb195)); have n11_ := Aside0.mk ((by rw [hg]; exact Nat.ne_of_lt (blk_lt (g := gb218) (o := .cells #[.int .i64 0, .int .i64 0, .int .i64 0, .slice none 0 0, .slice none 0 0, .bool false] 42 (0, 0)) (by (with_reducible repeat (first | refine blk_drewN ?_ _ | refine blk_drew ?_ | refine blk_alloc ?_ _)); exact BK218.out)) : gb218 ≠ gb219)); have n12_ := Aside0.mk ((by rw [hg]; exact Nat.ne_of_gt (blk_lt (g := gb218) (o := .cells #[.int .i64 0, .int .i64 0, .int .i64 0, .slice none 0 0, .slice none 0 0, .bool false] 42 (0, 0)) (by (with_reducible repeat (first | refine blk_drewN ?_ _ | refine blk_drew ?_ | refine blk_alloc ?_ _)); exact BK218.out)) : gb219 ≠ gb218)); clear HO_34; clear HO209; clear HO212; clear BK195; clear BK218; clear HB; have HO_34 := n0_; have HO209 := n1_; have HO212 := n2_; have BK195 := n3_; have BK218 := n4_; have HB := n5_; have BK219 := n6_; have GW219 := n7_; have GE219 := n8_; have NB195_219 := n9_; have NB219_195 := n10_; have NB218_219 := n11_; have NB219_218 := n12_; clear n0_ n1_ n2_ n3_ n4_ n5_ n6_ n7_ n8_ n9_ n10_ n11_ n12_; clear hb hbox hg; have hnb36 := NB218_195.out; have hnc36 := NB195_218.out; have hnb37 := NB218_219.out; have hnc37 := NB219_218.out; have hcz38_0 : w35.cell? ⟨gb218, 0, none⟩ = some (.int .i64 0) := (blk_cell BK218.out 0).trans rfl; have hcz38_1 : w35.cell? ⟨gb218, 1, none⟩ = some (.int .i64 0) := (blk_cell BK218.out 1).trans rfl; have hcz38_2 : w35.cell? ⟨gb218, 2, none⟩ = some (.int .i64 0) := (blk_cell BK218.out 2).trans rfl; have hcz38_3 : w35.cell? ⟨gb218, 3, none⟩ = some (.slice none 0 0) := (blk_cell BK218.out 3).trans rfl; have hcz38_4 : w35.cell? ⟨gb218, 4, none⟩ = some (.slice none 0 0) := (blk_cell BK218.out 4).trans rfl; have hcz38_5 : w35.cell? ⟨gb218, 5, none⟩ = some (.bool false) := (blk_cell BK218.out 5).trans rfl; have hfz38_0 := blk_frozen BK218.out 0; have hfz38_1 := blk_frozen BK218.out 1; have hfz38_2 := blk_frozen BK218.out 2; have hfz38_3 := blk_frozen BK218.out 3; have hfz38_4 := blk_frozen BK218.out 4; have hfz38_5 := blk_frozen BK218.out 5; obtain ⟨Ao39, co39, eo39⟩ := Kd.R_slice HO209.out; subst eo39; obtain ⟨Ao40, co40, eo40⟩ := Kd.R_slice HO212.out; subst eo40; have hnb41 := NB219_195.out; have hnc41 := NB195_219.out; have hcz42_0 : w35.cell? ⟨gb219, 0, none⟩ = some (.int .i64 0) := (blk_cell BK219.out 0).trans rfl; have hcz42_1 : w35.cell? ⟨gb219, 1, none⟩ = some (.int .i64 0) := (blk_cell BK219.out 1).trans rfl; have hcz42_2 : w35.cell? ⟨gb219, 2, none⟩ = some (.int .i64 0) := (blk_cell BK219.out 2).trans rfl; have hfz42_0 := blk_frozen BK219.out 0; have hfz42_1 := blk_frozen BK219.out 1; have hfz42_2 := blk_frozen BK219.out 2))
                          have n0_ : Aside0 (Kd.R (Kd.int .i64) 3 (((((((((w35.setCell ⟨gb218, 0, none⟩ (.int .i64 t204)).setCell ⟨gb218, 1, none⟩ (.int .i64 t205)).setCell ⟨gb218, 2, none⟩ (.int .i64 t206)).setCell ⟨gb218, 3, none⟩ (.slice Ao39 t207.length co39)).setCell ⟨gb218, 4, none⟩ (.slice Ao40 t210.length co40)).setCell ⟨gb218, 5, none⟩ (.bool t213)).setCell ⟨gb219, 0, none⟩ (.int .i64 t214)).setCell ⟨gb219, 1, none⟩ (.int .i64 t215)).setCell ⟨gb219, 2, none⟩ (.int .i64 t216)) w.heap.size (fun k_ => some k_ ≠ (.slice Ao39 t207.length co39 : Value).ownBlock) (.slice (some ad203) t198.length co19) t198) := ⟨by (with_reducible repeat (first | apply Kd.R_alloc | apply Kd.R_drewN | apply Kd.R_drew)); exact Kd.R_mono (Kd.R_far (p := ⟨gb219, 2, none⟩) (Kd.R_far (p := ⟨gb219, 1, none⟩) (Kd.R_far (p := ⟨gb219, 0, none⟩) (Kd.R_far (p := ⟨gb218, 5, none⟩) (Kd.R_far (p := ⟨gb218, 4, none⟩) (Kd.R_far (p := ⟨gb218, 3, none⟩) (Kd.R_far (p := ⟨gb218, 2, none⟩) (Kd.R_far (p := ⟨gb218, 1, none⟩) (Kd.R_far (p := ⟨gb218, 0, none⟩) (Kd.R_types (Kd.R_types HO_34.out BK218.out (by decide)) BK219.out (by decide)) (fun _ hk => hk.1.2) (.int .i64 t204)) (fun _ hk => hk.1.2) (.int .i64 t205)) (fun _ hk => hk.1.2) (.int .i64 t206)) (fun _ hk => hk.1.2) (.slice Ao39 t207.length co39)) (fun _ hk => hk.1.2) (.slice Ao40 t210.length co40)) (fun _ hk => hk.1.2) (.bool t213)) (fun _ hk => hk.2) (.int .i64 t214)) (fun _ hk => hk.2) (.int .i64 t215)) (fun _ hk => hk.2) (.int .i64 t216)) (fun _ hk => hk.1.1.2)⟩
                          have n1_ : Aside0 (Kd.R (Kd.int .i64) 3 (((((((((w35.setCell ⟨gb218, 0, none⟩ (.int .i64 t204)).setCell ⟨gb218, 1, none⟩ (.int .i64 t205)).setCell ⟨gb218, 2, none⟩ (.int .i64 t206)).setCell ⟨gb218, 3, none⟩ (.slice Ao39 t207.length co39)).setCell ⟨gb218, 4, none⟩ (.slice Ao40 t210.length co40)).setCell ⟨gb218, 5, none⟩ (.bool t213)).setCell ⟨gb219, 0, none⟩ (.int .i64 t214)).setCell ⟨gb219, 1, none⟩ (.int .i64 t215)).setCell ⟨gb219, 2, none⟩ (.int .i64 t216)) w.heap.size (fun k_ => some k_ ≠ (.slice (some ad203) t198.length co19 : Value).ownBlock) (.slice Ao39 t207.length co39) t207) := ⟨by (with_reducible repeat (first | apply Kd.R_alloc | apply Kd.R_drewN | apply Kd.R_drew)); exact Kd.R_mono (Kd.R_far (p := ⟨gb219, 2, none⟩) (Kd.R_far (p := ⟨gb219, 1, none⟩) (Kd.R_far (p := ⟨gb219, 0, none⟩) (Kd.R_far (p := ⟨gb218, 5, none⟩) (Kd.R_far (p := ⟨gb218, 4, none⟩) (Kd.R_far (p := ⟨gb218, 3, none⟩) (Kd.R_far (p := ⟨gb218, 2, none⟩) (Kd.R_far (p := ⟨gb218, 1, none⟩) (Kd.R_far (p := ⟨gb218, 0, none⟩) (Kd.R_types (Kd.R_types HO209.out BK218.out (by decide)) BK219.out (by decide)) (fun _ hk => hk.1.2) (.int .i64 t204)) (fun _ hk => hk.1.2) (.int .i64 t205)) (fun _ hk => hk.1.2) (.int .i64 t206)) (fun _ hk => hk.1.2) (.slice Ao39 t207.length co39)) (fun _ hk => hk.1.2) (.slice Ao40 t210.length co40)) (fun _ hk => hk.1.2) (.bool t213)) (fun _ hk => hk.2) (.int .i64 t214)) (fun _ hk => hk.2) (.int .i64 t215)) (fun _ hk => hk.2) (.int .i64 t216)) (fun _ hk => hk.1.1.2)⟩
                          have n2_ : Aside0 (Kd.R Kd.bool 4 (((((((((w35.setCell ⟨gb218, 0, none⟩ (.int .i64 t204)).setCell ⟨gb218, 1, none⟩ (.int .i64 t205)).setCell ⟨gb218, 2, none⟩ (.int .i64 t206)).setCell ⟨gb218, 3, none⟩ (.slice Ao39 t207.length co39)).setCell ⟨gb218, 4, none⟩ (.slice Ao40 t210.length co40)).setCell ⟨gb218, 5, none⟩ (.bool t213)).setCell ⟨gb219, 0, none⟩ (.int .i64 t214)).setCell ⟨gb219, 1, none⟩ (.int .i64 t215)).setCell ⟨gb219, 2, none⟩ (.int .i64 t216)) w.heap.size (fun _ => True) (.slice Ao40 t210.length co40) t210) := ⟨by (with_reducible repeat (first | apply Kd.R_alloc | apply Kd.R_drewN | apply Kd.R_drew)); exact Kd.R_mono (Kd.R_far (p := ⟨gb219, 2, none⟩) (Kd.R_far (p := ⟨gb219, 1, none⟩) (Kd.R_far (p := ⟨gb219, 0, none⟩) (Kd.R_far (p := ⟨gb218, 5, none⟩) (Kd.R_far (p := ⟨gb218, 4, none⟩) (Kd.R_far (p := ⟨gb218, 3, none⟩) (Kd.R_far (p := ⟨gb218, 2, none⟩) (Kd.R_far (p := ⟨gb218, 1, none⟩) (Kd.R_far (p := ⟨gb218, 0, none⟩) (Kd.R_types (Kd.R_types HO212.out BK218.out (by decide)) BK219.out (by decide)) (fun _ hk => hk.1.2) (.int .i64 t204)) (fun _ hk => hk.1.2) (.int .i64 t205)) (fun _ hk => hk.1.2) (.int .i64 t206)) (fun _ hk => hk.1.2) (.slice Ao39 t207.length co39)) (fun _ hk => hk.1.2) (.slice Ao40 t210.length co40)) (fun _ hk => hk.1.2) (.bool t213)) (fun _ hk => hk.2) (.int .i64 t214)) (fun _ hk => hk.2) (.int .i64 t215)) (fun _ hk => hk.2) (.int .i64 t216)) (fun _ hk => trivial)⟩
                          have n3_ : Aside0 ((((((((((w35.setCell ⟨gb218, 0, none⟩ (.int .i64 t204)).setCell ⟨gb218, 1, none⟩ (.int .i64 t205)).setCell ⟨gb218, 2, none⟩ (.int .i64 t206)).setCell ⟨gb218, 3, none⟩ (.slice Ao39 t207.length co39)).setCell ⟨gb218, 4, none⟩ (.slice Ao40 t210.length co40)).setCell ⟨gb218, 5, none⟩ (.bool t213)).setCell ⟨gb219, 0, none⟩ (.int .i64 t214)).setCell ⟨gb219, 1, none⟩ (.int .i64 t215)).setCell ⟨gb219, 2, none⟩ (.int .i64 t216)).heap[gb195]? = some (.cells #[.int .i64 a0_0, .int .i64 a0_1, .int .i64 a0_2, .slice A0_3 l0_3.length c0_3, .slice A0_4 l0_4.length c0_4, .bool a0_5] 42 (0, 0))) := ⟨by (with_reducible repeat (first | refine blk_drewN ?_ _ | refine blk_drew ?_ | refine blk_alloc ?_ _)); refine blk_far ?_ NB195_219.out _; (with_reducible repeat (first | refine blk_drewN ?_ _ | refine blk_drew ?_ | refine blk_alloc ?_ _)); refine blk_far ?_ NB195_219.out _; (with_reducible repeat (first | refine blk_drewN ?_ _ | refine blk_drew ?_ | refine blk_alloc ?_ _)); refine blk_far ?_ NB195_219.out _; (with_reducible repeat (first | refine blk_drewN ?_ _ | refine blk_drew ?_ | refine blk_alloc ?_ _)); refine blk_far ?_ NB195_218.out _; (with_reducible repeat (first | refine blk_drewN ?_ _ | refine blk_drew ?_ | refine blk_alloc ?_ _)); refine blk_far ?_ NB195_218.out _; (with_reducible repeat (first | refine blk_drewN ?_ _ | refine blk_drew ?_ | refine blk_alloc ?_ _)); refine blk_far ?_ NB195_218.out _; (with_reducible repeat (first | refine blk_drewN ?_ _ | refine blk_drew ?_ | refine blk_alloc ?_ _)); refine blk_far ?_ NB195_218.out _; (with_reducible repeat (first | refine blk_drewN ?_ _ | refine blk_drew ?_ | refine blk_alloc ?_ _)); refine blk_far ?_ NB195_218.out _; (with_reducible repeat (first | refine blk_drewN ?_ _ | refine blk_drew ?_ | refine blk_alloc ?_ _)); refine blk_far ?_ NB195_218.out _; (with_reducible repeat (first | refine blk_drewN ?_ _ | refine blk_drew ?_ | refine blk_alloc ?_ _)); exact BK195.out⟩
                          have n4_ : Aside0 ((((((((((w35.setCell ⟨gb218, 0, none⟩ (.int .i64 t204)).setCell ⟨gb218, 1, none⟩ (.int .i64 t205)).setCell ⟨gb218, 2, none⟩ (.int .i64 t206)).setCell ⟨gb218, 3, none⟩ (.slice Ao39 t207.length co39)).setCell ⟨gb218, 4, none⟩ (.slice Ao40 t210.length co40)).setCell ⟨gb218, 5, none⟩ (.bool t213)).setCell ⟨gb219, 0, none⟩ (.int .i64 t214)).setCell ⟨gb219, 1, none⟩ (.int .i64 t215)).setCell ⟨gb219, 2, none⟩ (.int .i64 t216)).heap[gb218]? = some (.cells #[.int .i64 t204, .int .i64 t205, .int .i64 t206, .slice Ao39 t207.length co39, .slice Ao40 t210.length co40, .bool t213] 42 (0, 0))) := ⟨by (with_reducible repeat (first | refine blk_drewN ?_ _ | refine blk_drew ?_ | refine blk_alloc ?_ _)); refine blk_far ?_ NB218_219.out _; (with_reducible repeat (first | refine blk_drewN ?_ _ | refine blk_drew ?_ | refine blk_alloc ?_ _)); refine blk_far ?_ NB218_219.out _; (with_reducible repeat (first | refine blk_drewN ?_ _ | refine blk_drew ?_ | refine blk_alloc ?_ _)); refine blk_far ?_ NB218_219.out _; (with_reducible repeat (first | refine blk_drewN ?_ _ | refine blk_drew ?_ | refine blk_alloc ?_ _)); refine blk_put (cs := #[.int .i64 t204, .int .i64 t205, .int .i64 t206, .slice Ao39 t207.length co39, .slice Ao40 t210.length co40, .bool false]) ?_ 5 _ rfl; (with_reducible repeat (first | refine blk_drewN ?_ _ | refine blk_drew ?_ | refine blk_alloc ?_ _)); refine blk_put (cs := #[.int .i64 t204, .int .i64 t205, .int .i64 t206, .slice Ao39 t207.length co39, .slice none 0 0, .bool false]) ?_ 4 _ rfl; (with_reducible repeat (first | refine blk_drewN ?_ _ | refine blk_drew ?_ | refine blk_alloc ?_ _)); refine blk_put (cs := #[.int .i64 t204, .int .i64 t205, .int .i64 t206, .slice none 0 0, .slice none 0 0, .bool false]) ?_ 3 _ rfl; (with_reducible repeat (first | refine blk_drewN ?_ _ | refine blk_drew ?_ | refine blk_alloc ?_ _)); refine blk_put (cs := #[.int .i64 t204, .int .i64 t205, .int .i64 0, .slice none 0 0, .slice none 0 0, .bool false]) ?_ 2 _ rfl; (with_reducible repeat (first | refine blk_drewN ?_ _ | refine blk_drew ?_ | refine blk_alloc ?_ _)); refine blk_put (cs := #[.int .i64 t204, .int .i64 0, .int .i64 0, .slice none 0 0, .slice none 0 0, .bool false]) ?_ 1 _ rfl; (with_reducible repeat (first | refine blk_drewN ?_ _ | refine blk_drew ?_ | refine blk_alloc ?_ _)); refine blk_put (cs := #[.int .i64 0, .int .i64 0, .int .i64 0, .slice none 0 0, .slice none 0 0, .bool false]) ?_ 0 _ rfl; (with_reducible repeat (first | refine blk_drewN ?_ _ | refine blk_drew ?_ | refine blk_alloc ?_ _)); exact BK218.out⟩
                          have n5_ : Aside0 ((((((((((w35.setCell ⟨gb218, 0, none⟩ (.int .i64 t204)).setCell ⟨gb218, 1, none⟩ (.int .i64 t205)).setCell ⟨gb218, 2, none⟩ (.int .i64 t206)).setCell ⟨gb218, 3, none⟩ (.slice Ao39 t207.length co39)).setCell ⟨gb218, 4, none⟩ (.slice Ao40 t210.length co40)).setCell ⟨gb218, 5, none⟩ (.bool t213)).setCell ⟨gb219, 0, none⟩ (.int .i64 t214)).setCell ⟨gb219, 1, none⟩ (.int .i64 t215)).setCell ⟨gb219, 2, none⟩ (.int .i64 t216)).heap[gb219]? = some (.cells #[.int .i64 t214, .int .i64 t215, .int .i64 t216] 52 (0, 0))) := ⟨by (with_reducible repeat (first | refine blk_drewN ?_ _ | refine blk_drew ?_ | refine blk_alloc ?_ _)); refine blk_put (cs := #[.int .i64 t214, .int .i64 t215, .int .i64 0]) ?_ 2 _ rfl; (with_reducible repeat (first | refine blk_drewN ?_ _ | refine blk_drew ?_ | refine blk_alloc ?_ _)); refine blk_put (cs := #[.int .i64 t214, .int .i64 0, .int .i64 0]) ?_ 1 _ rfl; (with_reducible repeat (first | refine blk_drewN ?_ _ | refine blk_drew ?_ | refine blk_alloc ?_ _)); refine blk_put (cs := #[.int .i64 0, .int .i64 0, .int .i64 0]) ?_ 0 _ rfl; (with_reducible repeat (first | refine blk_drewN ?_ _ | refine blk_drew ?_ | refine blk_alloc ?_ _)); refine blk_far ?_ NB219_218.out _; (with_reducible repeat (first | refine blk_drewN ?_ _ | refine blk_drew ?_ | refine blk_alloc ?_ _)); refine blk_far ?_ NB219_218.out _; (with_reducible repeat (first | refine blk_drewN ?_ _ | refine blk_drew ?_ | refine blk_alloc ?_ _)); refine blk_far ?_ NB219_218.out _; (with_reducible repeat (first | refine blk_drewN ?_ _ | refine blk_drew ?_ | refine blk_alloc ?_ _)); refine blk_far ?_ NB219_218.out _; (with_reducible repeat (first | refine blk_drewN ?_ _ | refine blk_drew ?_ | refine blk_alloc ?_ _)); refine blk_far ?_ NB219_218.out _; (with_reducible repeat (first | refine blk_drewN ?_ _ | refine blk_drew ?_ | refine blk_alloc ?_ _)); refine blk_far ?_ NB219_218.out _; (with_reducible repeat (first | refine blk_drewN ?_ _ | refine blk_drew ?_ | refine blk_alloc ?_ _)); exact BK219.out⟩
                          have n6_ : Aside0 (Below w.heap.size w (((((((((w35.setCell ⟨gb218, 0, none⟩ (.int .i64 t204)).setCell ⟨gb218, 1, none⟩ (.int .i64 t205)).setCell ⟨gb218, 2, none⟩ (.int .i64 t206)).setCell ⟨gb218, 3, none⟩ (.slice Ao39 t207.length co39)).setCell ⟨gb218, 4, none⟩ (.slice Ao40 t210.length co40)).setCell ⟨gb218, 5, none⟩ (.bool t213)).setCell ⟨gb219, 0, none⟩ (.int .i64 t214)).setCell ⟨gb219, 1, none⟩ (.int .i64 t215)).setCell ⟨gb219, 2, none⟩ (.int .i64 t216))) := ⟨by repeat (first | (with_reducible first | exact HB.out | apply below_alloc | apply pw_below_drewN | apply below_drew1 | refine below_set ?_ GE195.out | refine below_set ?_ GE218.out | refine below_set ?_ GE219.out) | exact HB.out)⟩
                          (try clear HO_34)
                          (try clear HO209)
                          (try clear HO212)
                          (try clear BK195)
                          (try clear BK218)
                          (try clear BK219)
                          (try clear HB)
                          generalize (((((((((w35.setCell ⟨gb218, 0, none⟩ (.int .i64 t204)).setCell ⟨gb218, 1, none⟩ (.int .i64 t205)).setCell ⟨gb218, 2, none⟩ (.int .i64 t206)).setCell ⟨gb218, 3, none⟩ (.slice Ao39 t207.length co39)).setCell ⟨gb218, 4, none⟩ (.slice Ao40 t210.length co40)).setCell ⟨gb218, 5, none⟩ (.bool t213)).setCell ⟨gb219, 0, none⟩ (.int .i64 t214)).setCell ⟨gb219, 1, none⟩ (.int .i64 t215)).setCell ⟨gb219, 2, none⟩ (.int .i64 t216)) = w43 at n0_ n1_ n2_ n3_ n4_ n5_ n6_ ⊢
                          have HO_34 := n0_
                          have HO209 := n1_
                          have HO212 := n2_
                          have BK195 := n3_
                          have BK218 := n4_
                          have BK219 := n5_
                          have HB := n6_
                          clear n0_ n1_ n2_ n3_ n4_ n5_ n6_
                          have n0_ := Aside0.mk (Kd.R_drew HO_34.out)
                          have n1_ := Aside0.mk (Kd.R_drew HO209.out)
                          have n2_ := Aside0.mk (Kd.R_drew HO212.out)
                          have n3_ := Aside0.mk (blk_drew BK195.out)
                          have n4_ := Aside0.mk (blk_drew BK218.out)
                          have n5_ := Aside0.mk (blk_drew BK219.out)
                          have n6_ := Aside0.mk (below_drew1 HB.out)
                          clear HO_34
                          clear HO209
                          clear HO212
                          clear BK195
                          clear BK218
                          clear BK219
                          clear HB
                          have HO_34 := n0_
                          have HO209 := n1_
                          have HO212 := n2_
                          have BK195 := n3_
                          have BK218 := n4_
                          have BK219 := n5_
                          have HB := n6_
                          clear n0_ n1_ n2_ n3_ n4_ n5_ n6_
                          refine start_ (n := 15) (S := fun w' => w'.cell? ⟨gb218, 0, none⟩ = some (.int .i64 t204) ∧ w'.cell? ⟨gb218, 1, none⟩ = some (.int .i64 t205) ∧ w'.cell? ⟨gb218, 2, none⟩ = some (.int .i64 t206) ∧ w'.cell? ⟨gb218, 3, none⟩ = some (.slice Ao39 t207.length co39) ∧ w'.cell? ⟨gb218, 4, none⟩ = some (.slice Ao40 t210.length co40) ∧ w'.cell? ⟨gb218, 5, none⟩ = some (.bool t213) ∧ w'.cell? ⟨gb195, 0, none⟩ = some (.int .i64 a0_0) ∧ w'.cell? ⟨gb195, 1, none⟩ = some (.int .i64 a0_1) ∧ w'.cell? ⟨gb195, 2, none⟩ = some (.int .i64 a0_2) ∧ w'.cell? ⟨gb195, 3, none⟩ = some (.slice A0_3 l0_3.length c0_3) ∧ w'.cell? ⟨gb195, 4, none⟩ = some (.slice A0_4 l0_4.length c0_4) ∧ w'.cell? ⟨gb195, 5, none⟩ = some (.bool a0_5)) (ds := []) #[false, false, false, false, false, false, false, false, false, false, false, false, false, false, false] (by kernel_rfl) rfl rfl ⟨(blk_cell BK218.out 0).trans rfl, (blk_cell BK218.out 1).trans rfl, (blk_cell BK218.out 2).trans rfl, (blk_cell BK218.out 3).trans rfl, (blk_cell BK218.out 4).trans rfl, (blk_cell BK218.out 5).trans rfl, (blk_cell BK195.out 0).trans rfl, (blk_cell BK195.out 1).trans rfl, (blk_cell BK195.out 2).trans rfl, (blk_cell BK195.out 3).trans rfl, (blk_cell BK195.out 4).trans rfl, (blk_cell BK195.out 5).trans rfl⟩ (fun hHeld => ?_); refine with_tabW hornbeamlaw21_SchedKeeps.tab10 hornbeamlaw21_SchedKeeps.bits10 (fun HT_ HW_ => ?_)
                          generalize w43.drew = w44 at HO_34 HO209 HO212 BK195 BK218 BK219 HB hHeld ⊢
                          refine pure_ (i := 0) (N := some 47) (v := ?_) (a' := ?_) #[true, false, false, false, false, false, false, false, false, false, false, false, false, false, false] rfl rfl (any_of HT_.out (by kernel_rfl)) (fun _ _ _ h => h) (Or.inl ⟨by rfl, ?_⟩) ?_ ?_
                          rotate_left
                          · intro w'
                            go_simp
                            with_reducible rfl
                          rotate_left
                          · simp only [Act.put, List.setIfInBounds_toArray, List.set_cons_zero, List.set_cons_succ, i64_w, i32_w]
                            rfl
                          refine pure_ (i := 1) (N := some 48) (v := ?_) (a' := ?_) #[true, true, false, false, false, false, false, false, false, false, false, false, false, false, false] rfl rfl (any_of HT_.out (by kernel_rfl)) (fun _ _ _ h => h) (Or.inl ⟨by rfl, ?_⟩) ?_ ?_
                          rotate_left
                          · intro w'
                            go_simp
                            with_reducible rfl
                          rotate_left
                          · simp only [Act.put, List.setIfInBounds_toArray, List.set_cons_zero, List.set_cons_succ, i64_w, i32_w]
                            rfl
                          refine pure_ (i := 2) (N := some 49) (v := ?_) (a' := ?_) #[true, true, true, false, false, false, false, false, false, false, false, false, false, false, false] rfl rfl (any_of HT_.out (by kernel_rfl)) (fun _ _ _ h => h) (Or.inl ⟨by rfl, ?_⟩) ?_ ?_
                          rotate_left
                          · intro w'
                            go_simp
                            with_reducible rfl
                          rotate_left
                          · simp only [Act.put, List.setIfInBounds_toArray, List.set_cons_zero, List.set_cons_succ, i64_w, i32_w]
                            rfl
                          refine take_ (i := 3) (N := some 50) (v := ?_) (a' := ?_) #[true, true, true, true, false, false, false, false, false, false, false, false, false, false, false] rfl rfl (take_ofW HT_.out HW_.out (by kernel_rfl)) (fun _ _ _ h => h) (Or.inl ⟨by rfl, ?_⟩) hHeld ?_ ?_
                          rotate_left
                          · rintro w' ⟨s0, s1, s2, s3, s4, s5, s6, s7, s8, s9, s10, s11⟩
                            go_simp
                            with_reducible rfl
                          rotate_left
                          · simp only [Act.put, List.setIfInBounds_toArray, List.set_cons_zero, List.set_cons_succ, i64_w, i32_w]
                            rfl
                          refine one_ (i := 4) (N := some 51) #[true, true, true, true, true, false, false, false, false, false, false, false, false, false, false] rfl rfl (one_of HT_.out (by kernel_rfl)) (by decide) (fun K hK => ?_)
                          refine goes_ Try.func35 (by kernel_rfl) rfl #[.agg #[.int .i64 t204, .int .i64 t205, .int .i64 t206, .slice Ao39 t207.length co39, .slice Ao40 t210.length co40, .bool t213]] (by rfl) rfl rfl (by (try simp only [List.map_toArray, List.map_cons, List.map_nil]); first | done | rfl | (simp only [List.length_drop, List.length_take]; rfl)) ?_
                          with_reducible refine (sched_May.calls k2 t204 t205 t206 _ _ t207 _ _ t210 t213 true _ ?side1 ?side2 ?side3 ?side4 A27.out).mono ?_
                          (case side1 => repeat (first | exact (Kd.R_reads' HO209.out).2.2 | (with_reducible refine Kd.C_alloc ?_ _) | (with_reducible refine Kd.C_drewN ?_ _) | (with_reducible refine Kd.C_drew ?_)))
                          (case side2 => exact (Kd.R_reads' HO209.out).2.1)
                          (case side3 => repeat (first | exact (Kd.R_reads' HO212.out).2.2 | (with_reducible refine Kd.C_alloc ?_ _) | (with_reducible refine Kd.C_drewN ?_ _) | (with_reducible refine Kd.C_drew ?_)))
                          (case side4 => exact (Kd.R_reads' HO212.out).2.1)
                          rintro e w45 ⟨rfl, hb⟩
                          refine ⟨_, rfl, ?_⟩
                          have n0_ := Aside0.mk (Kd.R_below (by (with_reducible repeat (first | apply Kd.R_alloc | apply Kd.R_drewN | apply Kd.R_drew)); exact HO_34.out) hb)
                          have n1_ := Aside0.mk (Kd.R_below (by (with_reducible repeat (first | apply Kd.R_alloc | apply Kd.R_drewN | apply Kd.R_drew)); exact HO209.out) hb)
                          have n2_ := Aside0.mk (Kd.R_below (by (with_reducible repeat (first | apply Kd.R_alloc | apply Kd.R_drewN | apply Kd.R_drew)); exact HO212.out) hb)
                          have n3_ := Aside0.mk (blk_below (g := gb195) (o := .cells #[.int .i64 a0_0, .int .i64 a0_1, .int .i64 a0_2, .slice A0_3 l0_3.length c0_3, .slice A0_4 l0_4.length c0_4, .bool a0_5] 42 (0, 0)) (by (with_reducible repeat (first | refine blk_drewN ?_ _ | refine blk_drew ?_ | refine blk_alloc ?_ _)); exact BK195.out) hb)
                          have n4_ := Aside0.mk (blk_below (g := gb218) (o := .cells #[.int .i64 t204, .int .i64 t205, .int .i64 t206, .slice Ao39 t207.length co39, .slice Ao40 t210.length co40, .bool t213] 42 (0, 0)) (by (with_reducible repeat (first | refine blk_drewN ?_ _ | refine blk_drew ?_ | refine blk_alloc ?_ _)); exact BK218.out) hb)
                          have n5_ := Aside0.mk (blk_below (g := gb219) (o := .cells #[.int .i64 t214, .int .i64 t215, .int .i64 t216] 52 (0, 0)) (by (with_reducible repeat (first | refine blk_drewN ?_ _ | refine blk_drew ?_ | refine blk_alloc ?_ _)); exact BK219.out) hb)
                          have n6_ := Aside0.mk (below_step (by repeat (first | (with_reducible first | exact HB.out | apply below_alloc | apply pw_below_drewN | apply below_drew1 | refine below_set ?_ GE195.out | refine below_set ?_ GE218.out | refine below_set ?_ GE219.out) | exact HB.out)) hb)
                          clear HO_34
                          clear HO209
                          clear HO212
                          clear BK195
                          clear BK218
                          clear BK219
                          clear HB
                          have HO_34 := n0_
                          have HO209 := n1_
                          have HO212 := n2_
                          have BK195 := n3_
                          have BK218 := n4_
                          have BK219 := n5_
                          have HB := n6_
                          clear n0_ n1_ n2_ n3_ n4_ n5_ n6_
                          (try clear hb)
                          (try clear hb2)
                          (try clear hk)
                          (try clear hi)
                          refine hK.out _ _ ⟨(blk_cell BK218.out 0).trans rfl, (blk_cell BK218.out 1).trans rfl, (blk_cell BK218.out 2).trans rfl, (blk_cell BK218.out 3).trans rfl, (blk_cell BK218.out 4).trans rfl, (blk_cell BK218.out 5).trans rfl, (blk_cell BK195.out 0).trans rfl, (blk_cell BK195.out 1).trans rfl, (blk_cell BK195.out 2).trans rfl, (blk_cell BK195.out 3).trans rfl, (blk_cell BK195.out 4).trans rfl, (blk_cell BK195.out 5).trans rfl⟩ (fun hHeld => ?_)
                          clear hK K
                          refine norm_ (a' := ?_) ?_ ?_
                          rotate_left
                          · show Act.put _ (some 51) _ = _
                            simp only [Act.put, List.setIfInBounds_toArray, List.set_cons_zero, List.set_cons_succ, i64_w, i32_w]
                            rfl
                          refine pure_ (i := 5) (N := some 52) (v := ?_) (a' := ?_) #[true, true, true, true, true, true, false, false, false, false, false, false, false, false, false] rfl rfl (any_of HT_.out (by kernel_rfl)) (fun _ _ _ h => h) (Or.inl ⟨by rfl, ?_⟩) ?_ ?_
                          rotate_left
                          · intro w'
                            go_simp
                            with_reducible rfl
                          rotate_left
                          · simp only [Act.put, List.setIfInBounds_toArray, List.set_cons_zero, List.set_cons_succ, i64_w, i32_w]
                            rfl
                          refine pure_ (i := 6) (N := some 53) (v := ?_) (a' := ?_) #[true, true, true, true, true, true, true, false, false, false, false, false, false, false, false] rfl rfl (any_of HT_.out (by kernel_rfl)) (fun _ _ _ h => h) (Or.inl ⟨by rfl, ?_⟩) ?_ ?_
                          rotate_left
                          · intro w'
                            go_simp
                            with_reducible rfl
                          rotate_left
                          · simp only [Act.put, List.setIfInBounds_toArray, List.set_cons_zero, List.set_cons_succ, i64_w, i32_w]
                            rfl
                          refine pure_ (i := 7) (N := some 54) (v := ?_) (a' := ?_) #[true, true, true, true, true, true, true, true, false, false, false, false, false, false, false] rfl rfl (any_of HT_.out (by kernel_rfl)) (fun _ _ _ h => h) (Or.inl ⟨by rfl, ?_⟩) ?_ ?_
                          rotate_left
                          · intro w'
                            go_simp
                            with_reducible rfl
                          rotate_left
                          · simp only [Act.put, List.setIfInBounds_toArray, List.set_cons_zero, List.set_cons_succ, i64_w, i32_w]
                            rfl
                          refine take_ (i := 8) (N := some 55) (v := ?_) (a' := ?_) #[true, true, true, true, true, true, true, true, true, false, false, false, false, false, false] rfl rfl (take_ofW HT_.out HW_.out (by kernel_rfl)) (fun _ _ _ h => h) (Or.inl ⟨by rfl, ?_⟩) hHeld ?_ ?_
                          rotate_left
                          · rintro w' ⟨s0, s1, s2, s3, s4, s5, s6, s7, s8, s9, s10, s11⟩
                            go_simp
                            with_reducible rfl
                          rotate_left
                          · simp only [Act.put, List.setIfInBounds_toArray, List.set_cons_zero, List.set_cons_succ, i64_w, i32_w]
                            rfl
                          refine take_ (i := 10) (N := some 57) (v := ?_) (a' := ?_) #[true, true, true, true, true, true, true, true, true, false, true, false, false, false, false] rfl rfl (take_ofW HT_.out HW_.out (by kernel_rfl)) (fun _ _ _ h => h) (Or.inl ⟨by rfl, ?_⟩) hHeld ?_ ?_
                          rotate_left
                          · rintro w' ⟨s0, s1, s2, s3, s4, s5, s6, s7, s8, s9, s10, s11⟩
                            go_simp
                            with_reducible rfl
                          rotate_left
                          · simp only [Act.put, List.setIfInBounds_toArray, List.set_cons_zero, List.set_cons_succ, i64_w, i32_w]
                            rfl
                          refine one_ (i := 9) (N := some 56) #[true, true, true, true, true, true, true, true, true, true, true, false, false, false, false] rfl rfl (one_of HT_.out (by kernel_rfl)) (by decide) (fun K hK => ?_)
                          refine goes_ Try.func41 (by kernel_rfl) rfl #[.agg #[.int .i64 t204, .int .i64 t205, .int .i64 t206, .slice Ao39 t207.length co39, .slice Ao40 t210.length co40, .bool t213]] (by rfl) rfl rfl (by (try simp only [List.map_toArray, List.map_cons, List.map_nil]); first | done | rfl | (simp only [List.length_drop, List.length_take]; rfl)) ?_
                          with_reducible refine (hornbeamlaw21_left.calls k2 t204 t205 t206 _ _ t207 _ _ t210 t213 t221 _ ?side1 ?side2 ?side3 ?side4 A29.out).mono ?_
                          (case side1 => repeat (first | exact (Kd.R_reads' HO209.out).2.2 | (with_reducible refine Kd.C_alloc ?_ _) | (with_reducible refine Kd.C_drewN ?_ _) | (with_reducible refine Kd.C_drew ?_)))
                          (case side2 => exact (Kd.R_reads' HO209.out).2.1)
                          (case side3 => repeat (first | exact (Kd.R_reads' HO212.out).2.2 | (with_reducible refine Kd.C_alloc ?_ _) | (with_reducible refine Kd.C_drewN ?_ _) | (with_reducible refine Kd.C_drew ?_)))
                          (case side4 => exact (Kd.R_reads' HO212.out).2.1)
                          rintro e w46 ⟨rfl, hb⟩
                          refine ⟨_, rfl, ?_⟩
                          have n0_ := Aside0.mk (Kd.R_below (by (with_reducible repeat (first | apply Kd.R_alloc | apply Kd.R_drewN | apply Kd.R_drew)); exact HO_34.out) hb)
                          have n1_ := Aside0.mk (Kd.R_below (by (with_reducible repeat (first | apply Kd.R_alloc | apply Kd.R_drewN | apply Kd.R_drew)); exact HO209.out) hb)
                          have n2_ := Aside0.mk (Kd.R_below (by (with_reducible repeat (first | apply Kd.R_alloc | apply Kd.R_drewN | apply Kd.R_drew)); exact HO212.out) hb)
                          have n3_ := Aside0.mk (blk_below (g := gb195) (o := .cells #[.int .i64 a0_0, .int .i64 a0_1, .int .i64 a0_2, .slice A0_3 l0_3.length c0_3, .slice A0_4 l0_4.length c0_4, .bool a0_5] 42 (0, 0)) (by (with_reducible repeat (first | refine blk_drewN ?_ _ | refine blk_drew ?_ | refine blk_alloc ?_ _)); exact BK195.out) hb)
                          have n4_ := Aside0.mk (blk_below (g := gb218) (o := .cells #[.int .i64 t204, .int .i64 t205, .int .i64 t206, .slice Ao39 t207.length co39, .slice Ao40 t210.length co40, .bool t213] 42 (0, 0)) (by (with_reducible repeat (first | refine blk_drewN ?_ _ | refine blk_drew ?_ | refine blk_alloc ?_ _)); exact BK218.out) hb)
                          have n5_ := Aside0.mk (blk_below (g := gb219) (o := .cells #[.int .i64 t214, .int .i64 t215, .int .i64 t216] 52 (0, 0)) (by (with_reducible repeat (first | refine blk_drewN ?_ _ | refine blk_drew ?_ | refine blk_alloc ?_ _)); exact BK219.out) hb)
                          have n6_ := Aside0.mk (below_step (by repeat (first | (with_reducible first | exact HB.out | apply below_alloc | apply pw_below_drewN | apply below_drew1 | refine below_set ?_ GE195.out | refine below_set ?_ GE218.out | refine below_set ?_ GE219.out) | exact HB.out)) hb)
                          clear HO_34
                          clear HO209
                          clear HO212
                          clear BK195
                          clear BK218
                          clear BK219
                          clear HB
                          have HO_34 := n0_
                          have HO209 := n1_
                          have HO212 := n2_
                          have BK195 := n3_
                          have BK218 := n4_
                          have BK219 := n5_
                          have HB := n6_
                          clear n0_ n1_ n2_ n3_ n4_ n5_ n6_
                          (try clear hb)
                          (try clear hb2)
                          (try clear hk)
                          (try clear hi)
                          refine hK.out _ _ ⟨(blk_cell BK218.out 0).trans rfl, (blk_cell BK218.out 1).trans rfl, (blk_cell BK218.out 2).trans rfl, (blk_cell BK218.out 3).trans rfl, (blk_cell BK218.out 4).trans rfl, (blk_cell BK218.out 5).trans rfl, (blk_cell BK195.out 0).trans rfl, (blk_cell BK195.out 1).trans rfl, (blk_cell BK195.out 2).trans rfl, (blk_cell BK195.out 3).trans rfl, (blk_cell BK195.out 4).trans rfl, (blk_cell BK195.out 5).trans rfl⟩ (fun hHeld => ?_)
                          clear hK K
                          refine norm_ (a' := ?_) ?_ ?_
                          rotate_left
                          · show Act.put _ (some 56) _ = _
                            simp only [Act.put, List.setIfInBounds_toArray, List.set_cons_zero, List.set_cons_succ, i64_w, i32_w]
                            rfl
                          refine one_ (i := 11) (N := some 58) #[true, true, true, true, true, true, true, true, true, true, true, true, false, false, false] rfl rfl (one_of HT_.out (by kernel_rfl)) (by decide) (fun K hK => ?_)
                          refine goes_ Try.func41 (by kernel_rfl) rfl #[.agg #[.int .i64 a0_0, .int .i64 a0_1, .int .i64 a0_2, .slice A0_3 l0_3.length c0_3, .slice A0_4 l0_4.length c0_4, .bool a0_5]] (by rfl) rfl rfl (by (try simp only [List.map_toArray, List.map_cons, List.map_nil]); first | done | rfl | (simp only [List.length_drop, List.length_take]; rfl)) ?_
                          with_reducible refine (hornbeamlaw21_left.calls k2 a0_0 a0_1 a0_2 _ _ l0_3 _ _ l0_4 a0_5 t222 _ ?side1 ?side2 ?side3 ?side4 A30.out).mono ?_
                          (case side1 => repeat (first | exact (Kd.C_below HR0_3.out HB.out) | (with_reducible refine Kd.C_alloc ?_ _) | (with_reducible refine Kd.C_drewN ?_ _) | (with_reducible refine Kd.C_drew ?_)))
                          (case side2 => exact HC0_3.out)
                          (case side3 => repeat (first | exact (Kd.C_below HR0_4.out HB.out) | (with_reducible refine Kd.C_alloc ?_ _) | (with_reducible refine Kd.C_drewN ?_ _) | (with_reducible refine Kd.C_drew ?_)))
                          (case side4 => exact HC0_4.out)
                          rintro e w47 ⟨rfl, hb⟩
                          refine ⟨_, rfl, ?_⟩
                          have n0_ := Aside0.mk (Kd.R_below (by (with_reducible repeat (first | apply Kd.R_alloc | apply Kd.R_drewN | apply Kd.R_drew)); exact HO_34.out) hb)
                          have n1_ := Aside0.mk (Kd.R_below (by (with_reducible repeat (first | apply Kd.R_alloc | apply Kd.R_drewN | apply Kd.R_drew)); exact HO209.out) hb)
                          have n2_ := Aside0.mk (Kd.R_below (by (with_reducible repeat (first | apply Kd.R_alloc | apply Kd.R_drewN | apply Kd.R_drew)); exact HO212.out) hb)
                          have n3_ := Aside0.mk (blk_below (g := gb195) (o := .cells #[.int .i64 a0_0, .int .i64 a0_1, .int .i64 a0_2, .slice A0_3 l0_3.length c0_3, .slice A0_4 l0_4.length c0_4, .bool a0_5] 42 (0, 0)) (by (with_reducible repeat (first | refine blk_drewN ?_ _ | refine blk_drew ?_ | refine blk_alloc ?_ _)); exact BK195.out) hb)
                          have n4_ := Aside0.mk (blk_below (g := gb218) (o := .cells #[.int .i64 t204, .int .i64 t205, .int .i64 t206, .slice Ao39 t207.length co39, .slice Ao40 t210.length co40, .bool t213] 42 (0, 0)) (by (with_reducible repeat (first | refine blk_drewN ?_ _ | refine blk_drew ?_ | refine blk_alloc ?_ _)); exact BK218.out) hb)
                          have n5_ := Aside0.mk (blk_below (g := gb219) (o := .cells #[.int .i64 t214, .int .i64 t215, .int .i64 t216] 52 (0, 0)) (by (with_reducible repeat (first | refine blk_drewN ?_ _ | refine blk_drew ?_ | refine blk_alloc ?_ _)); exact BK219.out) hb)
                          have n6_ := Aside0.mk (below_step (by repeat (first | (with_reducible first | exact HB.out | apply below_alloc | apply pw_below_drewN | apply below_drew1 | refine below_set ?_ GE195.out | refine below_set ?_ GE218.out | refine below_set ?_ GE219.out) | exact HB.out)) hb)
                          clear HO_34
                          clear HO209
                          clear HO212
                          clear BK195
                          clear BK218
                          clear BK219
                          clear HB
                          have HO_34 := n0_
                          have HO209 := n1_
                          have HO212 := n2_
                          have BK195 := n3_
                          have BK218 := n4_
                          have BK219 := n5_
                          have HB := n6_
                          clear n0_ n1_ n2_ n3_ n4_ n5_ n6_
                          (try clear hb)
                          (try clear hb2)
                          (try clear hk)
                          (try clear hi)
                          refine hK.out _ _ ⟨(blk_cell BK218.out 0).trans rfl, (blk_cell BK218.out 1).trans rfl, (blk_cell BK218.out 2).trans rfl, (blk_cell BK218.out 3).trans rfl, (blk_cell BK218.out 4).trans rfl, (blk_cell BK218.out 5).trans rfl, (blk_cell BK195.out 0).trans rfl, (blk_cell BK195.out 1).trans rfl, (blk_cell BK195.out 2).trans rfl, (blk_cell BK195.out 3).trans rfl, (blk_cell BK195.out 4).trans rfl, (blk_cell BK195.out 5).trans rfl⟩ (fun hHeld => ?_)
                          clear hK K
                          refine norm_ (a' := ?_) ?_ ?_
                          rotate_left
                          · show Act.put _ (some 58) _ = _
                            simp only [Act.put, List.setIfInBounds_toArray, List.set_cons_zero, List.set_cons_succ, i64_w, i32_w]
                            rfl
                          refine pure_ (i := 12) (N := some 59) (v := ?_) (a' := ?_) #[true, true, true, true, true, true, true, true, true, true, true, true, true, false, false] rfl rfl (any_of HT_.out (by kernel_rfl)) (fun _ _ _ h => h) (Or.inl ⟨by rfl, ?_⟩) ?_ ?_
                          rotate_left
                          · intro w'
                            go_simp
                            with_reducible rfl
                          rotate_left
                          · simp only [Act.put, List.setIfInBounds_toArray, List.set_cons_zero, List.set_cons_succ, i64_w, i32_w]
                            rfl
                          refine pure_ (i := 13) (N := some 60) (v := ?_) (a' := ?_) #[true, true, true, true, true, true, true, true, true, true, true, true, true, true, false] rfl rfl (any_of HT_.out (by kernel_rfl)) (fun _ _ _ h => h) (Or.inl ⟨by rfl, ?_⟩) ?_ ?_
                          rotate_left
                          · intro w'
                            go_simp
                            with_reducible rfl
                          rotate_left
                          · simp only [Act.put, List.setIfInBounds_toArray, List.set_cons_zero, List.set_cons_succ, i64_w, i32_w]
                            rfl
                          refine pure_ (i := 14) (N := some 61) (v := ?_) (a' := ?_) #[true, true, true, true, true, true, true, true, true, true, true, true, true, true, true] rfl rfl (any_of HT_.out (by kernel_rfl)) (fun _ _ _ h => h) (Or.inl ⟨by rfl, ?_⟩) ?_ ?_
                          rotate_left
                          · intro w'
                            go_simp
                            with_reducible rfl
                          rotate_left
                          · simp only [Act.put, List.setIfInBounds_toArray, List.set_cons_zero, List.set_cons_succ, i64_w, i32_w]
                            rfl
                          refine done_ (done_of HT_.out (by kernel_rfl)) ?_
                          try go_wp2
                          go_roundg k2
                          case measure => have := HJ1.out; have := HK2.out; omega
                          case rel => exact ⟨(wrap64 (x36_2 + 1)), (by first | rfl | (simp; done) | (simp [*]; done)), H', ⟨by have := HJ1.out; have := HK2.out; omega⟩, ⟨by (with_reducible repeat (first | apply Kd.R_alloc | apply Kd.R_drewN | apply Kd.R_drew)); exact Kd.R_mono HO_34.out (fun _ hk => trivial)⟩, ⟨by (with_reducible repeat (first | refine blk_drewN ?_ _ | refine blk_drew ?_ | refine blk_alloc ?_ _)); exact BK195.out⟩, ⟨by repeat (first | (with_reducible first | exact HB.out | apply below_alloc | apply pw_below_drewN | apply below_drew1 | refine below_set ?_ GE195.out | refine below_set ?_ GE218.out | refine below_set ?_ GE219.out) | exact HB.out)⟩⟩
                        · rw [if_neg c31] at H
                          have c31b0 : (t221 == (wrap64 (t222 - 1))) = false := beq_eq_false_iff_ne.mpr c31
                          have c31b1 : (t221 != (wrap64 (t222 - 1))) = true := bne_iff_ne.mpr c31
                          exact absurd (Option.some.inj H) (by rw [HR_.out]; decide)
                      · replace c28 := Bool.eq_false_iff.mpr c28
                        subst c28
                        have H1 : (some false) = some r := by rw [if_neg (show ¬ (false = true) by decide)] at H; exact H
                        clear H
                        have H := H1
                        clear H1
                        exact absurd (Option.some.inj H) (by rw [HR_.out]; decide)
                    · rw [if_neg c26] at H
                      have c26b0 : (t217 == 0) = false := beq_eq_false_iff_ne.mpr c26
                      have c26b1 : (t217 != 0) = true := bne_iff_ne.mpr c26
                      exact absurd (Option.some.inj H) (by rw [HR_.out]; decide)
                  · rw [if_neg c24] at H
                    exact absurd H (by simp)
                · rw [if_neg c23] at H
                  exact absurd H (by simp)
              · rw [if_neg c22] at H
                have c22b0 : decide (x36_2 < (t198.length : Int)) = false := decide_eq_false c22
                clear c22
                replace H := Option.bind_eq_some_iff.mp H
                obtain ⟨t202, A480, H⟩ := H
                replace H : (some t202) = some r := H
                have A48 := Aside0.mk A480
                clear A480
                obtain rfl := Option.some.inj H
                go_wp2_with (first | ((with_reducible refine gate_callee (f := 21) rfl ?_); refine goesL_ (some 63) rfl rfl Try.func21 (by kernel_rfl) rfl #[] rfl (by (try simp only [List.map_toArray, List.map_cons, List.map_nil]); first | done | rfl | (simp only [List.length_drop, List.length_take]; rfl)) ?_; (with_reducible refine (hornbeamlaw21_fixed.calls k2  t202 _ A48.out).mono ?_); rintro e w49 ⟨rfl, hb⟩; refine ⟨_, rfl, ?_⟩; have n0_ := Aside0.mk (Kd.R_below (by (with_reducible repeat (first | apply Kd.R_alloc | apply Kd.R_drewN | apply Kd.R_drew)); exact HO_34.out) hb); have n1_ := Aside0.mk (blk_below (g := gb195) (o := .cells #[.int .i64 a0_0, .int .i64 a0_1, .int .i64 a0_2, .slice A0_3 l0_3.length c0_3, .slice A0_4 l0_4.length c0_4, .bool a0_5] 42 (0, 0)) (by (with_reducible repeat (first | refine blk_drewN ?_ _ | refine blk_drew ?_ | refine blk_alloc ?_ _)); exact BK195.out) hb); have n2_ := Aside0.mk (below_step (by repeat (first | (with_reducible first | exact HB.out | apply below_alloc | apply pw_below_drewN | apply below_drew1 | refine below_set ?_ GE195.out) | exact HB.out)) hb); clear HO_34; clear BK195; clear HB; have HO_34 := n0_; have BK195 := n1_; have HB := n2_; clear n0_ n1_ n2_; (try clear hb); (try clear hb2); (try clear hk); (try clear hi)))
                all_goals (go_ret; exact ⟨by first | rfl | (simp [errW_none, errW_some] <;> rfl) | (simp [*, errW_none, errW_some] <;> rfl) | (simp_all; done), by repeat (first | (with_reducible first | exact HB.out | apply below_alloc | apply pw_below_drewN | apply below_drew1 | refine below_set ?_ GE195.out) | exact HB.out)⟩)

/-- THE ONE PURE STATEMENT of hornbeamlaw21_SchedKeeps: yours. -/
def hornbeamlaw21_SchedKeeps.Pure : Prop := ∀ (a0_0 : Int) (a0_1 : Int) (a0_2 : Int) (l0_3 : List Int) (l0_4 : List Bool) (a0_5 : Bool), (Lit.int .i64 a0_0).wf = true → (Lit.int .i64 a0_1).wf = true → (Lit.int .i64 a0_2).wf = true → (l0_3.length ≤ maxLen ∧ ∀ v0 ∈ l0_3, (Lit.int .i64 v0).wf = true) → (l0_4.length ≤ maxLen ∧ ∀ v0 ∈ l0_4, True) → ∃ k, hornbeamlaw21_SchedKeeps.f k a0_0 a0_1 a0_2 l0_3 l0_4 a0_5 = some true

end Go.Proofs.Ytoonddgldmfleaa.QSchedKeeps
