-- Written by a program of this session (wip/tools/mkprint.py over the kit's print); Lean checks it.
import Derived.Test.YtpbgfmbkjojdeaaDoorQFracOrderx0
import Derived.Test.YtpbgfmbkjojdeaaDoorQFracOrderx4
import Derived.Test.YtpbgfmbkjojdeaaDoorQFracOrderx6
namespace Go.Proofs.YtpbgfmbkjojdeaaDoor.QFracOrder
open Go.RowKit Go.Proofs.YtpbgfmbkjojdeaaDoorW.PrintWords Go.Proofs.YtpbgfmbkjojdeaaDoorW.PrintLast Go.Proofs.YtpbgfmbkjojdeaaDoorW.PrintMore
attribute [local go_sem] max2_int min2_int max_two min_two max_three min_three max_four min_four   -- for this text's walks alone
set_option linter.unusedVariables false
set_option linter.unusedSimpArgs false

/-! ### hornbeamref05_CmpSigned: function 16 -/
mutual
def hornbeamref05_CmpSigned.j0 : Nat → Bool → Int → Int → Int → Int → Option (Int)
  | 0, _, _, _, _, _ => none
  | k + 1, x14, x222000, x222001, x223000, x223001 => if x14 = true then (some 0) else (if x222001 < 1 then (some (-1)) else (if x223001 < 1 then (some 1) else ((hornbeamref04_Size.f x222000).bind fun t223 => ((hornbeamref04_Digits.f t223).bind fun t224 => ((hornbeamref04_Digits.f (IntKind.u64.wrap (x223001))).bind fun t227 => ((hornbeamref04_Product.f k t224 t227).bind fun t230 => ((hornbeamref04_Size.f x223000).bind fun t233 => ((hornbeamref04_Digits.f t233).bind fun t234 => ((hornbeamref04_Digits.f (IntKind.u64.wrap (x222001))).bind fun t237 => ((hornbeamref04_Product.f k t234 t237).bind fun t240 => (if x222000 < 0 then (hornbeamref05_CmpSigned.j1 k t230 t240 (decide (x223000 < 0)) x222000 x222001 x223000 x223001) else (hornbeamref05_CmpSigned.j1 k t230 t240 false x222000 x222001 x223000 x223001))))))))))))
def hornbeamref05_CmpSigned.j1 : Nat → List Int → List Int → Bool → Int → Int → Int → Int → Option (Int)
  | 0, _, _, _, _, _, _, _ => none
  | k + 1, x5, x6, x46, x222000, x222001, x223000, x223001 => if x46 = true then ((hornbeamref04_Compare.f k x6 x5).bind fun t243 => (some t243)) else (if x222000 < 0 then (some (-1)) else (if x223000 < 0 then (some 1) else ((hornbeamref04_Compare.f k x5 x6).bind fun t244 => (some t244))))
end
def hornbeamref05_CmpSigned.f (k : Nat) (a0_0 : Int) (a0_1 : Int) (a1_0 : Int) (a1_1 : Int) : Option (Int) := if a0_1 < 1 then (hornbeamref05_CmpSigned.j0 k (decide (a1_1 < 1)) a0_0 a0_1 a1_0 a1_1) else (hornbeamref05_CmpSigned.j0 k false a0_0 a0_1 a1_0 a1_1)
theorem hornbeamref05_CmpSigned.mono_l : ∀ k, (∀ y0 y1 y2 y3 y4, LeO (hornbeamref05_CmpSigned.j0 k y0 y1 y2 y3 y4) (hornbeamref05_CmpSigned.j0 (k + 1) y0 y1 y2 y3 y4)) ∧ (∀ y0 y1 y2 y3 y4 y5 y6, LeO (hornbeamref05_CmpSigned.j1 k y0 y1 y2 y3 y4 y5 y6) (hornbeamref05_CmpSigned.j1 (k + 1) y0 y1 y2 y3 y4 y5 y6))
  | 0 => ⟨fun _ _ _ _ _ r h => by simp [hornbeamref05_CmpSigned.j0] at h, fun _ _ _ _ _ _ _ r h => by simp [hornbeamref05_CmpSigned.j1] at h⟩
  | k + 1 => by
    obtain ⟨ih0, ih1⟩ := hornbeamref05_CmpSigned.mono_l k
    refine ⟨?_, ?_⟩
    · intro y0 y1 y2 y3 y4
      unfold hornbeamref05_CmpSigned.j0
      repeat' first
      | (with_reducible exact ih0 _ _ _ _ _)
      | (with_reducible exact ih1 _ _ _ _ _ _ _)
      | (with_reducible exact hornbeamref04_Compare.mono _ _ _)
      | (with_reducible exact hornbeamref04_Product.mono _ _ _)
      | (with_reducible exact LeO.refl _)
      | (with_reducible exact LeO.none _)
      | (with_reducible refine LeO.ite ?_ ?_)
      | (with_reducible refine LeO.bind ?_ (fun _ => ?_))
      | exact ih0 _ _ _ _ _
      | exact ih1 _ _ _ _ _ _ _
      | exact hornbeamref04_Compare.mono _ _ _
      | exact hornbeamref04_Product.mono _ _ _
      | exact LeO.none _
      | refine LeO.ite ?_ ?_
      | refine LeO.bind ?_ (fun _ => ?_)
    · intro y0 y1 y2 y3 y4 y5 y6
      unfold hornbeamref05_CmpSigned.j1
      repeat' first
      | (with_reducible exact ih0 _ _ _ _ _)
      | (with_reducible exact ih1 _ _ _ _ _ _ _)
      | (with_reducible exact hornbeamref04_Compare.mono _ _ _)
      | (with_reducible exact hornbeamref04_Product.mono _ _ _)
      | (with_reducible exact LeO.refl _)
      | (with_reducible exact LeO.none _)
      | (with_reducible refine LeO.ite ?_ ?_)
      | (with_reducible refine LeO.bind ?_ (fun _ => ?_))
      | exact ih0 _ _ _ _ _
      | exact ih1 _ _ _ _ _ _ _
      | exact hornbeamref04_Compare.mono _ _ _
      | exact hornbeamref04_Product.mono _ _ _
      | exact LeO.none _
      | refine LeO.ite ?_ ?_
      | refine LeO.bind ?_ (fun _ => ?_)
theorem hornbeamref05_CmpSigned.mono : ∀ a0 a1 a2 a3 k, LeO (hornbeamref05_CmpSigned.f k a0 a1 a2 a3) (hornbeamref05_CmpSigned.f (k + 1) a0 a1 a2 a3) := by
  intro a0 a1 a2 a3 k
  obtain ⟨ih0, ih1⟩ := hornbeamref05_CmpSigned.mono_l k
  unfold hornbeamref05_CmpSigned.f
  repeat' first
      | (with_reducible exact ih0 _ _ _ _ _)
      | (with_reducible exact ih1 _ _ _ _ _ _ _)
      | (with_reducible exact hornbeamref04_Compare.mono _ _ _)
      | (with_reducible exact hornbeamref04_Product.mono _ _ _)
      | (with_reducible exact LeO.refl _)
      | (with_reducible exact LeO.none _)
      | (with_reducible refine LeO.ite ?_ ?_)
      | (with_reducible refine LeO.bind ?_ (fun _ => ?_))
      | exact ih0 _ _ _ _ _
      | exact ih1 _ _ _ _ _ _ _
      | exact hornbeamref04_Compare.mono _ _ _
      | exact hornbeamref04_Product.mono _ _ _
      | exact LeO.none _
      | refine LeO.ite ?_ ?_
      | refine LeO.bind ?_ (fun _ => ?_)
def hornbeamref05_CmpSigned.T7 : Bool × List (List Nat × List Nat) := (true, [([], []), ([0], [0]), ([1], [1]), ([2, 2], [2]), ([], []), ([4], [4]), ([5], [5]), ([6, 3], [6]), ([3, 7, 7], [3, 7]), ([8, 8, 0, 1, 2, 3, 4, 5, 6, 7, 8], [8])])
def hornbeamref05_CmpSigned.B7 : List Nat := [0, 1, 3, 7, 0, 16, 48, 127, 255, 511]
theorem hornbeamref05_CmpSigned.tab7 : rtab .any (opsOf Tryd.f16 7) = hornbeamref05_CmpSigned.T7 := by kernel_rfl
theorem hornbeamref05_CmpSigned.bits7 : waitsOk hornbeamref05_CmpSigned.T7.2 hornbeamref05_CmpSigned.B7 = true := by kernel_rfl
def hornbeamref05_CmpSigned.T8 : Bool × List (List Nat × List Nat) := (true, [([], []), ([0], [0]), ([1], [1]), ([2, 2], [2]), ([], []), ([4], [4]), ([5], [5]), ([6, 3], [6]), ([3, 7, 7], [3, 7]), ([8, 8, 0, 1, 2, 3, 4, 5, 6, 7, 8], [8])])
def hornbeamref05_CmpSigned.B8 : List Nat := [0, 1, 3, 7, 0, 16, 48, 127, 255, 511]
theorem hornbeamref05_CmpSigned.tab8 : rtab .any (opsOf Tryd.f16 8) = hornbeamref05_CmpSigned.T8 := by kernel_rfl
theorem hornbeamref05_CmpSigned.bits8 : waitsOk hornbeamref05_CmpSigned.T8.2 hornbeamref05_CmpSigned.B8 = true := by kernel_rfl
set_option maxHeartbeats 8000000 in
set_option maxRecDepth 100000 in
theorem hornbeamref05_CmpSigned.calls (k : Nat) (a0_0 : Int) (a0_1 : Int) (a1_0 : Int) (a1_1 : Int) (r : Int) (w : World) (h : hornbeamref05_CmpSigned.f k a0_0 a0_1 a1_0 a1_1 = some r) :
    Calls Tryd.prog 16 #[.agg #[.int .i64 a0_0, .int .i64 a0_1], .agg #[.int .i64 a1_0, .int .i64 a1_1]] w fun e w' => e = .returned (.int .i64 r) ∧ Below w.heap.size w w' := by
  have hu31 := Tryd.underlying31
  have HB := Aside0.mk (Below.refl w.heap.size w)
  have H : (if a0_1 < 1 then (hornbeamref05_CmpSigned.j0 k (decide (a1_1 < 1)) a0_0 a0_1 a1_0 a1_1) else (hornbeamref05_CmpSigned.j0 k false a0_0 a0_1 a1_0 a1_1)) = some r := h
  clear h
  have HC3 := Aside0.mk H
  clear H
  go_enter Tryd.func16, Tryd.ntmps16
  go_upto_region 1 with (first | ((with_reducible refine gate_dst (N := 2) rfl ?_); refine box_event ?hg (N := 2) ?hd (cs := #[.int .i64 a0_0, .int .i64 a0_1]) (t := 31) ?hr ?_; (case hd => rfl); (case hg => rfl); (case hr => first | (go_simp; done) | (go_simp; rfl)); intro gb221 hg w4 hbox hb; have n0_ := Aside0.mk (below_step (by repeat (first | (with_reducible first | exact HB.out | apply below_alloc | apply pw_below_drewN | apply below_drew1) | exact HB.out)) hb); have n1_ := Aside0.mk (hbox); have n2_ := Aside0.mk ((by rw [hg]; exact (below_size (by repeat (first | (with_reducible first | exact HB.out | apply below_alloc | apply pw_below_drewN | apply below_drew1) | exact HB.out))) : w.heap.size ≤ gb221)); have n3_ := Aside0.mk ((by rw [hg]; exact (below_size (by repeat (first | (with_reducible first | exact HB.out | apply below_alloc | apply pw_below_drewN | apply below_drew1) | exact HB.out))) : w.heap.size ≤ gb221)); clear HB; have HB := n0_; have BK221 := n1_; have GW221 := n2_; have GE221 := n3_; clear n0_ n1_ n2_ n3_; clear hb hbox hg) | ((with_reducible refine gate_dst (N := 3) rfl ?_); refine box_event ?hg (N := 3) ?hd (cs := #[.int .i64 a1_0, .int .i64 a1_1]) (t := 31) ?hr ?_; (case hd => rfl); (case hg => rfl); (case hr => first | (go_simp; done) | (go_simp; rfl)); intro gb222 hg w5 hbox hb; have n0_ := Aside0.mk (blk_below (g := gb221) (o := .cells #[.int .i64 a0_0, .int .i64 a0_1] 31 (0, 0)) (by (with_reducible repeat (first | refine blk_drewN ?_ _ | refine blk_drew ?_ | refine blk_alloc ?_ _)); exact BK221.out) hb); have n1_ := Aside0.mk (below_step (by repeat (first | (with_reducible first | exact HB.out | apply below_alloc | apply pw_below_drewN | apply below_drew1 | refine below_set ?_ GE221.out) | exact HB.out)) hb); have n2_ := Aside0.mk (hbox); have n3_ := Aside0.mk ((by rw [hg]; exact (below_size (by repeat (first | (with_reducible first | exact HB.out | apply below_alloc | apply pw_below_drewN | apply below_drew1 | refine below_set ?_ GE221.out) | exact HB.out))) : w.heap.size ≤ gb222)); have n4_ := Aside0.mk ((by rw [hg]; exact (below_size (by repeat (first | (with_reducible first | exact HB.out | apply below_alloc | apply pw_below_drewN | apply below_drew1 | refine below_set ?_ GE221.out) | exact HB.out))) : w.heap.size ≤ gb222)); have n5_ := Aside0.mk ((by rw [hg]; exact Nat.ne_of_lt (blk_lt (g := gb221) (o := .cells #[.int .i64 a0_0, .int .i64 a0_1] 31 (0, 0)) (by (with_reducible repeat (first | refine blk_drewN ?_ _ | refine blk_drew ?_ | refine blk_alloc ?_ _)); exact BK221.out)) : gb221 ≠ gb222)); have n6_ := Aside0.mk ((by rw [hg]; exact Nat.ne_of_gt (blk_lt (g := gb221) (o := .cells #[.int .i64 a0_0, .int .i64 a0_1] 31 (0, 0)) (by (with_reducible repeat (first | refine blk_drewN ?_ _ | refine blk_drew ?_ | refine blk_alloc ?_ _)); exact BK221.out)) : gb222 ≠ gb221)); clear BK221; clear HB; have BK221 := n0_; have HB := n1_; have BK222 := n2_; have GW222 := n3_; have GE222 := n4_; have NB221_222 := n5_; have NB222_221 := n6_; clear n0_ n1_ n2_ n3_ n4_ n5_ n6_; clear hb hbox hg))
  (try simp only [Act.put, List.setIfInBounds_toArray, List.set_cons_zero, List.set_cons_succ])
  go_cut [14] (fun v14 wc => ∃ (kq : Nat) (x14_2 : Bool), v14 = .bool x14_2 ∧ Aside0 (hornbeamref05_CmpSigned.j0 kq x14_2 a0_0 a0_1 a1_0 a1_1 = some r) ∧ Aside0 (kq ≤ k) ∧ Aside0 (wc.heap[gb221]? = some (.cells #[.int .i64 a0_0, .int .i64 a0_1] 31 (0, 0))) ∧ Aside0 (wc.heap[gb222]? = some (.cells #[.int .i64 a1_0, .int .i64 a1_1] 31 (0, 0))) ∧ Aside0 (Below w.heap.size w wc))
  case first =>
    have H := HC3.out
    clear HC3
    by_cases c6 : a0_1 < 1
    · rw [if_pos c6] at H
      have c6b0 : decide (a0_1 < 1) = true := decide_eq_true c6
      clear c6
      (first | rw [c6b0] | (simp only [i64_w, i32_w]; rw [c6b0]) | skip)
      have H' := Aside0.mk H
      clear H
      have hnb7 := NB221_222.out
      have hnc7 := NB222_221.out
      have hcz8_0 : w5.cell? ⟨gb221, 0, none⟩ = some (.int .i64 a0_0) := (blk_cell BK221.out 0).trans rfl
      have hcz8_1 : w5.cell? ⟨gb221, 1, none⟩ = some (.int .i64 a0_1) := (blk_cell BK221.out 1).trans rfl
      have hfz8_0 := blk_frozen BK221.out 0
      have hfz8_1 := blk_frozen BK221.out 1
      have hcz9_0 : w5.cell? ⟨gb222, 0, none⟩ = some (.int .i64 a1_0) := (blk_cell BK222.out 0).trans rfl
      have hcz9_1 : w5.cell? ⟨gb222, 1, none⟩ = some (.int .i64 a1_1) := (blk_cell BK222.out 1).trans rfl
      have hfz9_0 := blk_frozen BK222.out 0
      have hfz9_1 := blk_frozen BK222.out 1
      go_wp2
      go_meet
      case rel => exact ⟨_, (decide (a1_1 < 1)), (by first | rfl | (simp; done) | (simp [*]; done)), H', ⟨by first | omega | exact Nat.le_refl _⟩, ⟨by (with_reducible repeat (first | refine blk_drewN ?_ _ | refine blk_drew ?_ | refine blk_alloc ?_ _)); exact BK221.out⟩, ⟨by (with_reducible repeat (first | refine blk_drewN ?_ _ | refine blk_drew ?_ | refine blk_alloc ?_ _)); exact BK222.out⟩, ⟨by repeat (first | (with_reducible first | exact HB.out | apply below_alloc | apply pw_below_drewN | apply below_drew1 | refine below_set ?_ GE221.out | refine below_set ?_ GE222.out) | exact HB.out)⟩⟩
    · rw [if_neg c6] at H
      have c6b0 : decide (a0_1 < 1) = false := decide_eq_false c6
      clear c6
      (first | rw [c6b0] | (simp only [i64_w, i32_w]; rw [c6b0]) | skip)
      have H' := Aside0.mk H
      clear H
      have hnb10 := NB221_222.out
      have hnc10 := NB222_221.out
      have hcz11_0 : w5.cell? ⟨gb221, 0, none⟩ = some (.int .i64 a0_0) := (blk_cell BK221.out 0).trans rfl
      have hcz11_1 : w5.cell? ⟨gb221, 1, none⟩ = some (.int .i64 a0_1) := (blk_cell BK221.out 1).trans rfl
      have hfz11_0 := blk_frozen BK221.out 0
      have hfz11_1 := blk_frozen BK221.out 1
      go_wp2
      go_meet
      case rel => exact ⟨_, (false), (by first | rfl | (simp; done) | (simp [*]; done)), H', ⟨by first | omega | exact Nat.le_refl _⟩, ⟨by (with_reducible repeat (first | refine blk_drewN ?_ _ | refine blk_drew ?_ | refine blk_alloc ?_ _)); exact BK221.out⟩, ⟨by (with_reducible repeat (first | refine blk_drewN ?_ _ | refine blk_drew ?_ | refine blk_alloc ?_ _)); exact BK222.out⟩, ⟨by repeat (first | (with_reducible first | exact HB.out | apply below_alloc | apply pw_below_drewN | apply below_drew1 | refine below_set ?_ GE221.out | refine below_set ?_ GE222.out) | exact HB.out)⟩⟩
  case rest =>
    clear HC3
    try clear c1
    try clear p2
    try clear c6
    try clear c6b0
    try clear c7
    try clear c10
    try clear hcz11_0
    try clear hcz11_1
    try clear hcz8_0
    try clear hcz8_1
    try clear hcz9_0
    try clear hcz9_1
    try clear hfz11_0
    try clear hfz11_1
    try clear hfz8_0
    try clear hfz8_1
    try clear hfz9_0
    try clear hfz9_1
    obtain ⟨kq, x14_2, rfl, HA, HJ2, BK221, BK222, HB⟩ := hcut
    cases kq with
    | zero => exact absurd HA.out (by simp [hornbeamref05_CmpSigned.j0])
    | succ kj2 =>
      have H := HA.out
      clear HA
      simp only [hornbeamref05_CmpSigned.j0] at H
      by_cases c12 : x14_2 = true
      · subst c12
        have H1 : (some 0) = some r := by rw [if_pos rfl] at H; exact H
        clear H
        have H := H1
        clear H1
        obtain rfl := Option.some.inj H
        go_wp2
        all_goals (go_ret; exact ⟨by first | rfl | (simp [errW_none, errW_some] <;> rfl) | (simp [*, errW_none, errW_some] <;> rfl) | (simp_all; done), by repeat (first | (with_reducible first | exact HB.out | apply below_alloc | apply pw_below_drewN | apply below_drew1 | refine below_set ?_ GE221.out | refine below_set ?_ GE222.out) | exact HB.out)⟩)
      · replace c12 := Bool.eq_false_iff.mpr c12
        subst c12
        have H1 : (if a0_1 < 1 then (some (-1)) else (if a1_1 < 1 then (some 1) else ((hornbeamref04_Size.f a0_0).bind fun t223 => ((hornbeamref04_Digits.f t223).bind fun t224 => ((hornbeamref04_Digits.f (IntKind.u64.wrap (a1_1))).bind fun t227 => ((hornbeamref04_Product.f kj2 t224 t227).bind fun t230 => ((hornbeamref04_Size.f a1_0).bind fun t233 => ((hornbeamref04_Digits.f t233).bind fun t234 => ((hornbeamref04_Digits.f (IntKind.u64.wrap (a0_1))).bind fun t237 => ((hornbeamref04_Product.f kj2 t234 t237).bind fun t240 => (if a0_0 < 0 then (hornbeamref05_CmpSigned.j1 kj2 t230 t240 (decide (a1_0 < 0)) a0_0 a0_1 a1_0 a1_1) else (hornbeamref05_CmpSigned.j1 kj2 t230 t240 false a0_0 a0_1 a1_0 a1_1)))))))))))) = some r := by rw [if_neg (show ¬ (false = true) by decide)] at H; exact H
        clear H
        have H := H1
        clear H1
        by_cases c13 : a0_1 < 1
        · rw [if_pos c13] at H
          have c13b0 : decide (a0_1 < 1) = true := decide_eq_true c13
          clear c13
          obtain rfl := Option.some.inj H
          have hnb14 := NB221_222.out
          have hnc14 := NB222_221.out
          have hcz15_0 : wc.cell? ⟨gb221, 0, none⟩ = some (.int .i64 a0_0) := (blk_cell BK221.out 0).trans rfl
          have hcz15_1 : wc.cell? ⟨gb221, 1, none⟩ = some (.int .i64 a0_1) := (blk_cell BK221.out 1).trans rfl
          have hfz15_0 := blk_frozen BK221.out 0
          have hfz15_1 := blk_frozen BK221.out 1
          go_wp2
          all_goals (go_ret; exact ⟨by first | rfl | (simp [errW_none, errW_some] <;> rfl) | (simp [*, errW_none, errW_some] <;> rfl) | (simp_all; done), by repeat (first | (with_reducible first | exact HB.out | apply below_alloc | apply pw_below_drewN | apply below_drew1 | refine below_set ?_ GE221.out | refine below_set ?_ GE222.out) | exact HB.out)⟩)
        · rw [if_neg c13] at H
          have c13b0 : decide (a0_1 < 1) = false := decide_eq_false c13
          clear c13
          by_cases c16 : a1_1 < 1
          · rw [if_pos c16] at H
            have c16b0 : decide (a1_1 < 1) = true := decide_eq_true c16
            clear c16
            obtain rfl := Option.some.inj H
            have hnb17 := NB221_222.out
            have hnc17 := NB222_221.out
            have hcz18_0 : wc.cell? ⟨gb221, 0, none⟩ = some (.int .i64 a0_0) := (blk_cell BK221.out 0).trans rfl
            have hcz18_1 : wc.cell? ⟨gb221, 1, none⟩ = some (.int .i64 a0_1) := (blk_cell BK221.out 1).trans rfl
            have hfz18_0 := blk_frozen BK221.out 0
            have hfz18_1 := blk_frozen BK221.out 1
            have hcz19_0 : wc.cell? ⟨gb222, 0, none⟩ = some (.int .i64 a1_0) := (blk_cell BK222.out 0).trans rfl
            have hcz19_1 : wc.cell? ⟨gb222, 1, none⟩ = some (.int .i64 a1_1) := (blk_cell BK222.out 1).trans rfl
            have hfz19_0 := blk_frozen BK222.out 0
            have hfz19_1 := blk_frozen BK222.out 1
            go_wp2
            all_goals (go_ret; exact ⟨by first | rfl | (simp [errW_none, errW_some] <;> rfl) | (simp [*, errW_none, errW_some] <;> rfl) | (simp_all; done), by repeat (first | (with_reducible first | exact HB.out | apply below_alloc | apply pw_below_drewN | apply below_drew1 | refine below_set ?_ GE221.out | refine below_set ?_ GE222.out) | exact HB.out)⟩)
          · rw [if_neg c16] at H
            have c16b0 : decide (a1_1 < 1) = false := decide_eq_false c16
            clear c16
            replace H := Option.bind_eq_some_iff.mp H
            obtain ⟨t223, A200, H⟩ := H
            replace H : ((hornbeamref04_Digits.f t223).bind fun t224 => ((hornbeamref04_Digits.f (IntKind.u64.wrap (a1_1))).bind fun t227 => ((hornbeamref04_Product.f kj2 t224 t227).bind fun t230 => ((hornbeamref04_Size.f a1_0).bind fun t233 => ((hornbeamref04_Digits.f t233).bind fun t234 => ((hornbeamref04_Digits.f (IntKind.u64.wrap (a0_1))).bind fun t237 => ((hornbeamref04_Product.f kj2 t234 t237).bind fun t240 => (if a0_0 < 0 then (hornbeamref05_CmpSigned.j1 kj2 t230 t240 (decide (a1_0 < 0)) a0_0 a0_1 a1_0 a1_1) else (hornbeamref05_CmpSigned.j1 kj2 t230 t240 false a0_0 a0_1 a1_0 a1_1))))))))) = some r := H
            have A20 := Aside0.mk A200
            clear A200
            replace H := Option.bind_eq_some_iff.mp H
            obtain ⟨t224, A210, H⟩ := H
            replace H : ((hornbeamref04_Digits.f (IntKind.u64.wrap (a1_1))).bind fun t227 => ((hornbeamref04_Product.f kj2 t224 t227).bind fun t230 => ((hornbeamref04_Size.f a1_0).bind fun t233 => ((hornbeamref04_Digits.f t233).bind fun t234 => ((hornbeamref04_Digits.f (IntKind.u64.wrap (a0_1))).bind fun t237 => ((hornbeamref04_Product.f kj2 t234 t237).bind fun t240 => (if a0_0 < 0 then (hornbeamref05_CmpSigned.j1 kj2 t230 t240 (decide (a1_0 < 0)) a0_0 a0_1 a1_0 a1_1) else (hornbeamref05_CmpSigned.j1 kj2 t230 t240 false a0_0 a0_1 a1_0 a1_1)))))))) = some r := H
            have A21 := Aside0.mk A210
            clear A210
            replace H := Option.bind_eq_some_iff.mp H
            obtain ⟨t227, A220, H⟩ := H
            replace H : ((hornbeamref04_Product.f kj2 t224 t227).bind fun t230 => ((hornbeamref04_Size.f a1_0).bind fun t233 => ((hornbeamref04_Digits.f t233).bind fun t234 => ((hornbeamref04_Digits.f (IntKind.u64.wrap (a0_1))).bind fun t237 => ((hornbeamref04_Product.f kj2 t234 t237).bind fun t240 => (if a0_0 < 0 then (hornbeamref05_CmpSigned.j1 kj2 t230 t240 (decide (a1_0 < 0)) a0_0 a0_1 a1_0 a1_1) else (hornbeamref05_CmpSigned.j1 kj2 t230 t240 false a0_0 a0_1 a1_0 a1_1))))))) = some r := H
            have A22 := Aside0.mk A220
            clear A220
            replace H := Option.bind_eq_some_iff.mp H
            obtain ⟨t230, A230, H⟩ := H
            replace H : ((hornbeamref04_Size.f a1_0).bind fun t233 => ((hornbeamref04_Digits.f t233).bind fun t234 => ((hornbeamref04_Digits.f (IntKind.u64.wrap (a0_1))).bind fun t237 => ((hornbeamref04_Product.f kj2 t234 t237).bind fun t240 => (if a0_0 < 0 then (hornbeamref05_CmpSigned.j1 kj2 t230 t240 (decide (a1_0 < 0)) a0_0 a0_1 a1_0 a1_1) else (hornbeamref05_CmpSigned.j1 kj2 t230 t240 false a0_0 a0_1 a1_0 a1_1)))))) = some r := H
            have A23 := Aside0.mk A230
            clear A230
            replace H := Option.bind_eq_some_iff.mp H
            obtain ⟨t233, A240, H⟩ := H
            replace H : ((hornbeamref04_Digits.f t233).bind fun t234 => ((hornbeamref04_Digits.f (IntKind.u64.wrap (a0_1))).bind fun t237 => ((hornbeamref04_Product.f kj2 t234 t237).bind fun t240 => (if a0_0 < 0 then (hornbeamref05_CmpSigned.j1 kj2 t230 t240 (decide (a1_0 < 0)) a0_0 a0_1 a1_0 a1_1) else (hornbeamref05_CmpSigned.j1 kj2 t230 t240 false a0_0 a0_1 a1_0 a1_1))))) = some r := H
            have A24 := Aside0.mk A240
            clear A240
            replace H := Option.bind_eq_some_iff.mp H
            obtain ⟨t234, A250, H⟩ := H
            replace H : ((hornbeamref04_Digits.f (IntKind.u64.wrap (a0_1))).bind fun t237 => ((hornbeamref04_Product.f kj2 t234 t237).bind fun t240 => (if a0_0 < 0 then (hornbeamref05_CmpSigned.j1 kj2 t230 t240 (decide (a1_0 < 0)) a0_0 a0_1 a1_0 a1_1) else (hornbeamref05_CmpSigned.j1 kj2 t230 t240 false a0_0 a0_1 a1_0 a1_1)))) = some r := H
            have A25 := Aside0.mk A250
            clear A250
            replace H := Option.bind_eq_some_iff.mp H
            obtain ⟨t237, A260, H⟩ := H
            replace H : ((hornbeamref04_Product.f kj2 t234 t237).bind fun t240 => (if a0_0 < 0 then (hornbeamref05_CmpSigned.j1 kj2 t230 t240 (decide (a1_0 < 0)) a0_0 a0_1 a1_0 a1_1) else (hornbeamref05_CmpSigned.j1 kj2 t230 t240 false a0_0 a0_1 a1_0 a1_1))) = some r := H
            have A26 := Aside0.mk A260
            clear A260
            replace H := Option.bind_eq_some_iff.mp H
            obtain ⟨t240, A270, H⟩ := H
            replace H : (if a0_0 < 0 then (hornbeamref05_CmpSigned.j1 kj2 t230 t240 (decide (a1_0 < 0)) a0_0 a0_1 a1_0 a1_1) else (hornbeamref05_CmpSigned.j1 kj2 t230 t240 false a0_0 a0_1 a1_0 a1_1)) = some r := H
            have A27 := Aside0.mk A270
            clear A270
            have HC28 := Aside0.mk H
            clear H
            have hnb29 := NB221_222.out
            have hnc29 := NB222_221.out
            have hcz30_0 : wc.cell? ⟨gb221, 0, none⟩ = some (.int .i64 a0_0) := (blk_cell BK221.out 0).trans rfl
            have hcz30_1 : wc.cell? ⟨gb221, 1, none⟩ = some (.int .i64 a0_1) := (blk_cell BK221.out 1).trans rfl
            have hfz30_0 := blk_frozen BK221.out 0
            have hfz30_1 := blk_frozen BK221.out 1
            have hcz31_0 : wc.cell? ⟨gb222, 0, none⟩ = some (.int .i64 a1_0) := (blk_cell BK222.out 0).trans rfl
            have hcz31_1 : wc.cell? ⟨gb222, 1, none⟩ = some (.int .i64 a1_1) := (blk_cell BK222.out 1).trans rfl
            have hfz31_0 := blk_frozen BK222.out 0
            have hfz31_1 := blk_frozen BK222.out 1
            try go_wp2
            have n0_ := Aside0.mk (blk_drew BK221.out)
            have n1_ := Aside0.mk (blk_drew BK222.out)
            have n2_ := Aside0.mk (below_drew1 HB.out)
            clear BK221
            clear BK222
            clear HB
            have BK221 := n0_
            have BK222 := n1_
            have HB := n2_
            clear n0_ n1_ n2_
            refine start_ (n := 10) (S := fun w' => w'.cell? ⟨gb221, 0, none⟩ = some (.int .i64 a0_0) ∧ w'.cell? ⟨gb221, 1, none⟩ = some (.int .i64 a0_1) ∧ w'.cell? ⟨gb222, 0, none⟩ = some (.int .i64 a1_0) ∧ w'.cell? ⟨gb222, 1, none⟩ = some (.int .i64 a1_1)) (ds := []) #[false, false, false, false, false, false, false, false, false, false] (by kernel_rfl) rfl rfl ⟨(blk_cell BK221.out 0).trans rfl, (blk_cell BK221.out 1).trans rfl, (blk_cell BK222.out 0).trans rfl, (blk_cell BK222.out 1).trans rfl⟩ (fun hHeld => ?_); refine with_tabW hornbeamref05_CmpSigned.tab7 hornbeamref05_CmpSigned.bits7 (fun HT_ HW_ => ?_)
            generalize wc.drew = w32 at BK221 BK222 HB hHeld ⊢
            refine pure_ (i := 0) (N := some 21) (v := ?_) (a' := ?_) #[true, false, false, false, false, false, false, false, false, false] rfl rfl (any_of HT_.out (by kernel_rfl)) (fun _ _ _ h => h) (Or.inl ⟨by rfl, ?_⟩) ?_ ?_
            rotate_left
            · intro w'
              go_simp
              with_reducible rfl
            rotate_left
            · simp only [Act.put, List.setIfInBounds_toArray, List.set_cons_zero, List.set_cons_succ, i64_w, i32_w]
              rfl
            refine pure_ (i := 4) (N := some 25) (v := ?_) (a' := ?_) #[true, false, false, false, true, false, false, false, false, false] rfl rfl (any_of HT_.out (by kernel_rfl)) (fun _ _ _ h => h) (Or.inl ⟨by rfl, ?_⟩) ?_ ?_
            rotate_left
            · intro w'
              go_simp
              with_reducible rfl
            rotate_left
            · simp only [Act.put, List.setIfInBounds_toArray, List.set_cons_zero, List.set_cons_succ, i64_w, i32_w]
              rfl
            refine take_ (i := 1) (N := some 22) (v := ?_) (a' := ?_) #[true, true, false, false, true, false, false, false, false, false] rfl rfl (take_ofW HT_.out HW_.out (by kernel_rfl)) (fun _ _ _ h => h) (Or.inl ⟨by rfl, ?_⟩) hHeld ?_ ?_
            rotate_left
            · rintro w' ⟨s0, s1, s2, s3⟩
              go_simp
              with_reducible rfl
            rotate_left
            · simp only [Act.put, List.setIfInBounds_toArray, List.set_cons_zero, List.set_cons_succ, i64_w, i32_w]
              rfl
            refine take_ (i := 5) (N := some 26) (v := ?_) (a' := ?_) #[true, true, false, false, true, true, false, false, false, false] rfl rfl (take_ofW HT_.out HW_.out (by kernel_rfl)) (fun _ _ _ h => h) (Or.inl ⟨by rfl, ?_⟩) hHeld ?_ ?_
            rotate_left
            · rintro w' ⟨s0, s1, s2, s3⟩
              go_simp
              with_reducible rfl
            rotate_left
            · simp only [Act.put, List.setIfInBounds_toArray, List.set_cons_zero, List.set_cons_succ, i64_w, i32_w]
              rfl
            refine pure_ (i := 6) (N := some 27) (v := ?_) (a' := ?_) #[true, true, false, false, true, true, true, false, false, false] rfl rfl (any_of HT_.out (by kernel_rfl)) (fun _ _ _ h => h) (Or.inl ⟨by rfl, ?_⟩) ?_ ?_
            rotate_left
            · intro w'
              go_simp
              with_reducible rfl
            rotate_left
            · simp only [Act.put, List.setIfInBounds_toArray, List.set_cons_zero, List.set_cons_succ, i64_w, i32_w]
              rfl
            refine one_ (i := 2) (N := some 23) #[true, true, true, false, true, true, true, false, false, false] rfl rfl (one_of HT_.out (by kernel_rfl)) (by decide) (fun K hK => ?_)
            refine goes_ Tryd.func32 (by kernel_rfl) rfl #[.int .i64 a0_0] (by rfl) rfl rfl (by (try simp only [List.map_toArray, List.map_cons, List.map_nil]); first | done | rfl | (simp only [List.length_drop, List.length_take]; rfl)) ?_
            with_reducible refine (hornbeamref04_Size.calls a0_0 t223 _ A20.out).mono ?_
            rintro e w' ⟨rfl, ⟨nd, rfl⟩⟩
            refine ⟨_, rfl, ?_⟩
            refine hK.out _ _ ⟨(blk_cell BK221.out 0).trans rfl, (blk_cell BK221.out 1).trans rfl, (blk_cell BK222.out 0).trans rfl, (blk_cell BK222.out 1).trans rfl⟩ (fun hHeld => ?_)
            clear hK K
            refine norm_ (a' := ?_) ?_ ?_
            rotate_left
            · show Act.put _ (some 23) _ = _
              simp only [Act.put, List.setIfInBounds_toArray, List.set_cons_zero, List.set_cons_succ, i64_w, i32_w]
              rfl
            refine one_ (i := 3) (N := some 24) #[true, true, true, true, true, true, true, false, false, false] rfl rfl (one_of HT_.out (by kernel_rfl)) (by decide) (fun K hK => ?_)
            refine goes_ Tryd.func29 (by kernel_rfl) rfl #[.int .u64 t223] (by rfl) rfl rfl (by (try simp only [List.map_toArray, List.map_cons, List.map_nil]); first | done | rfl | (simp only [List.length_drop, List.length_take]; rfl)) ?_
            with_reducible refine (hornbeamref04_Digits.calls t223 t224 _ A21.out).mono ?_
            rintro e w33 ⟨v225, rfl, ho0, hb⟩
            refine ⟨_, rfl, ?_⟩
            have n0_ := Aside0.mk (Kd.R_lower ho0 (below_size (by repeat (first | (with_reducible first | exact HB.out | apply below_alloc | apply pw_below_drewN | apply below_drew1 | refine below_set ?_ GE221.out | refine below_set ?_ GE222.out) | exact HB.out))))
            have n1_ := Aside0.mk (blk_below (g := gb221) (o := .cells #[.int .i64 a0_0, .int .i64 a0_1] 31 (0, 0)) (by (with_reducible repeat (first | refine blk_drewN ?_ _ | refine blk_drew ?_ | refine blk_alloc ?_ _)); exact BK221.out) hb)
            have n2_ := Aside0.mk (blk_below (g := gb222) (o := .cells #[.int .i64 a1_0, .int .i64 a1_1] 31 (0, 0)) (by (with_reducible repeat (first | refine blk_drewN ?_ _ | refine blk_drew ?_ | refine blk_alloc ?_ _)); exact BK222.out) hb)
            have n3_ := Aside0.mk (below_step (by repeat (first | (with_reducible first | exact HB.out | apply below_alloc | apply pw_below_drewN | apply below_drew1 | refine below_set ?_ GE221.out | refine below_set ?_ GE222.out) | exact HB.out)) hb)
            clear BK221
            clear BK222
            clear HB
            have HO226 := n0_
            have BK221 := n1_
            have BK222 := n2_
            have HB := n3_
            clear n0_ n1_ n2_ n3_
            (try clear hb)
            (try clear hb2)
            (try clear hk)
            (try clear hi)
            (try clear ho0)
            refine hK.out _ _ ⟨(blk_cell BK221.out 0).trans rfl, (blk_cell BK221.out 1).trans rfl, (blk_cell BK222.out 0).trans rfl, (blk_cell BK222.out 1).trans rfl⟩ (fun hHeld => ?_)
            clear hK K
            refine norm_ (a' := ?_) ?_ ?_
            rotate_left
            · show Act.put _ (some 24) _ = _
              simp only [Act.put, List.setIfInBounds_toArray, List.set_cons_zero, List.set_cons_succ, i64_w, i32_w]
              rfl
            refine one_ (i := 7) (N := some 28) #[true, true, true, true, true, true, true, true, false, false] rfl rfl (one_of HT_.out (by kernel_rfl)) (by decide) (fun K hK => ?_)
            refine goes_ Tryd.func29 (by kernel_rfl) rfl #[.int .u64 (IntKind.u64.wrap (a1_1))] (by rfl) rfl rfl (by (try simp only [List.map_toArray, List.map_cons, List.map_nil]); first | done | rfl | (simp only [List.length_drop, List.length_take]; rfl)) ?_
            with_reducible refine (hornbeamref04_Digits.calls (IntKind.u64.wrap (a1_1)) t227 _ A22.out).mono ?_
            rintro e w34 ⟨v228, rfl, ho0, hb⟩
            refine ⟨_, rfl, ?_⟩
            have n0_ := Aside0.mk (Kd.R_elder' (by (with_reducible repeat (first | apply Kd.R_alloc | apply Kd.R_drewN | apply Kd.R_drew)); exact HO226.out) (Kd.R_base ho0) hb)
            have n1_ := Aside0.mk (Kd.R_lower (Kd.R_new' ho0 (Kd.R_lt (by (with_reducible repeat (first | apply Kd.R_alloc | apply Kd.R_drewN | apply Kd.R_drew)); exact HO226.out))) (below_size (by repeat (first | (with_reducible first | exact HB.out | apply below_alloc | apply pw_below_drewN | apply below_drew1 | refine below_set ?_ GE221.out | refine below_set ?_ GE222.out) | exact HB.out))))
            have n2_ := Aside0.mk (blk_below (g := gb221) (o := .cells #[.int .i64 a0_0, .int .i64 a0_1] 31 (0, 0)) (by (with_reducible repeat (first | refine blk_drewN ?_ _ | refine blk_drew ?_ | refine blk_alloc ?_ _)); exact BK221.out) hb)
            have n3_ := Aside0.mk (blk_below (g := gb222) (o := .cells #[.int .i64 a1_0, .int .i64 a1_1] 31 (0, 0)) (by (with_reducible repeat (first | refine blk_drewN ?_ _ | refine blk_drew ?_ | refine blk_alloc ?_ _)); exact BK222.out) hb)
            have n4_ := Aside0.mk (below_step (by repeat (first | (with_reducible first | exact HB.out | apply below_alloc | apply pw_below_drewN | apply below_drew1 | refine below_set ?_ GE221.out | refine below_set ?_ GE222.out) | exact HB.out)) hb)
            clear HO226
            clear BK221
            clear BK222
            clear HB
            have HO226 := n0_
            have HO229 := n1_
            have BK221 := n2_
            have BK222 := n3_
            have HB := n4_
            clear n0_ n1_ n2_ n3_ n4_
            (try clear hb)
            (try clear hb2)
            (try clear hk)
            (try clear hi)
            (try clear ho0)
            obtain ⟨Ao35, co35, eo35⟩ := Kd.R_slice HO226.out
            (first | subst eo35 | (injection eo35 with f1_ f2_ f3_; have f4_ := f1_.symm; have f5_ := f3_.symm; clear f1_ f2_ f3_; subst f4_; subst f5_))
            obtain ⟨Ao36, co36, eo36⟩ := Kd.R_slice HO229.out
            (first | subst eo36 | (injection eo36 with f1_ f2_ f3_; have f4_ := f1_.symm; have f5_ := f3_.symm; clear f1_ f2_ f3_; subst f4_; subst f5_))
            refine hK.out _ _ ⟨(blk_cell BK221.out 0).trans rfl, (blk_cell BK221.out 1).trans rfl, (blk_cell BK222.out 0).trans rfl, (blk_cell BK222.out 1).trans rfl⟩ (fun hHeld => ?_)
            clear hK K
            refine norm_ (a' := ?_) ?_ ?_
            rotate_left
            · show Act.put _ (some 28) _ = _
              simp only [Act.put, List.setIfInBounds_toArray, List.set_cons_zero, List.set_cons_succ, i64_w, i32_w]
              rfl
            refine one_ (i := 8) (N := some 29) #[true, true, true, true, true, true, true, true, true, false] rfl rfl (one_of HT_.out (by kernel_rfl)) (by decide) (fun K hK => ?_)
            refine goes_ Tryd.func27 (by kernel_rfl) rfl #[.slice Ao35 t224.length co35, .slice Ao36 t227.length co36] (by rfl) rfl rfl (by (try simp only [List.map_toArray, List.map_cons, List.map_nil]); first | done | rfl | (simp only [List.length_drop, List.length_take]; rfl)) ?_
            with_reducible refine (hornbeamref04_Product.calls kj2 _ _ t224 _ _ t227 t230 _ ?side1 ?side2 ?side3 ?side4 A23.out).mono ?_
            (case side1 => repeat (first | exact (Kd.R_reads' HO226.out).2.2 | (with_reducible refine Kd.C_alloc ?_ _) | (with_reducible refine Kd.C_drewN ?_ _) | (with_reducible refine Kd.C_drew ?_)))
            (case side2 => exact (Kd.R_reads' HO226.out).2.1)
            (case side3 => repeat (first | exact (Kd.R_reads' HO229.out).2.2 | (with_reducible refine Kd.C_alloc ?_ _) | (with_reducible refine Kd.C_drewN ?_ _) | (with_reducible refine Kd.C_drew ?_)))
            (case side4 => exact (Kd.R_reads' HO229.out).2.1)
            rintro e w37 ⟨v231, rfl, ho0, hb⟩
            refine ⟨_, rfl, ?_⟩
            have n0_ := Aside0.mk (Kd.R_elder' (by (with_reducible repeat (first | apply Kd.R_alloc | apply Kd.R_drewN | apply Kd.R_drew)); exact HO226.out) (Kd.R_base ho0) hb)
            have n1_ := Aside0.mk (Kd.R_elder' (by (with_reducible repeat (first | apply Kd.R_alloc | apply Kd.R_drewN | apply Kd.R_drew)); exact HO229.out) (Kd.R_base ho0) hb)
            have n2_ := Aside0.mk (Kd.R_lower (Kd.R_new' (Kd.R_new' ho0 (Kd.R_lt (by (with_reducible repeat (first | apply Kd.R_alloc | apply Kd.R_drewN | apply Kd.R_drew)); exact HO226.out))) (Kd.R_lt (by (with_reducible repeat (first | apply Kd.R_alloc | apply Kd.R_drewN | apply Kd.R_drew)); exact HO229.out))) (below_size (by repeat (first | (with_reducible first | exact HB.out | apply below_alloc | apply pw_below_drewN | apply below_drew1 | refine below_set ?_ GE221.out | refine below_set ?_ GE222.out) | exact HB.out))))
            have n3_ := Aside0.mk (blk_below (g := gb221) (o := .cells #[.int .i64 a0_0, .int .i64 a0_1] 31 (0, 0)) (by (with_reducible repeat (first | refine blk_drewN ?_ _ | refine blk_drew ?_ | refine blk_alloc ?_ _)); exact BK221.out) hb)
            have n4_ := Aside0.mk (blk_below (g := gb222) (o := .cells #[.int .i64 a1_0, .int .i64 a1_1] 31 (0, 0)) (by (with_reducible repeat (first | refine blk_drewN ?_ _ | refine blk_drew ?_ | refine blk_alloc ?_ _)); exact BK222.out) hb)
            have n5_ := Aside0.mk (below_step (by repeat (first | (with_reducible first | exact HB.out | apply below_alloc | apply pw_below_drewN | apply below_drew1 | refine below_set ?_ GE221.out | refine below_set ?_ GE222.out) | exact HB.out)) hb)
            clear HO226
            clear HO229
            clear BK221
            clear BK222
            clear HB
            have HO226 := n0_
            have HO229 := n1_
            have HO232 := n2_
            have BK221 := n3_
            have BK222 := n4_
            have HB := n5_
            clear n0_ n1_ n2_ n3_ n4_ n5_
            (try clear hb)
            (try clear hb2)
            (try clear hk)
            (try clear hi)
            (try clear ho0)
            refine hK.out _ _ ⟨(blk_cell BK221.out 0).trans rfl, (blk_cell BK221.out 1).trans rfl, (blk_cell BK222.out 0).trans rfl, (blk_cell BK222.out 1).trans rfl⟩ (fun hHeld => ?_)
            clear hK K
            refine norm_ (a' := ?_) ?_ ?_
            rotate_left
            · show Act.put _ (some 29) _ = _
              simp only [Act.put, List.setIfInBounds_toArray, List.set_cons_zero, List.set_cons_succ, i64_w, i32_w]
              rfl
            refine pure_ (i := 9) (N := some 5) (v := ?_) (a' := ?_) #[true, true, true, true, true, true, true, true, true, true] rfl rfl (any_of HT_.out (by kernel_rfl)) (fun _ _ _ h => h) (Or.inl ⟨by rfl, ?_⟩) ?_ ?_
            rotate_left
            · intro w'
              go_simp
              with_reducible rfl
            rotate_left
            · simp only [Act.put, List.setIfInBounds_toArray, List.set_cons_zero, List.set_cons_succ, i64_w, i32_w]
              rfl
            refine done_ (done_of HT_.out (by kernel_rfl)) ?_
            try go_wp2
            have n0_ := Aside0.mk (Kd.R_drew HO226.out)
            have n1_ := Aside0.mk (Kd.R_drew HO229.out)
            have n2_ := Aside0.mk (Kd.R_drew HO232.out)
            have n3_ := Aside0.mk (blk_drew BK221.out)
            have n4_ := Aside0.mk (blk_drew BK222.out)
            have n5_ := Aside0.mk (below_drew1 HB.out)
            clear HO226
            clear HO229
            clear HO232
            clear BK221
            clear BK222
            clear HB
            have HO226 := n0_
            have HO229 := n1_
            have HO232 := n2_
            have BK221 := n3_
            have BK222 := n4_
            have HB := n5_
            clear n0_ n1_ n2_ n3_ n4_ n5_
            refine start_ (n := 10) (S := fun w' => w'.cell? ⟨gb222, 0, none⟩ = some (.int .i64 a1_0) ∧ w'.cell? ⟨gb222, 1, none⟩ = some (.int .i64 a1_1) ∧ w'.cell? ⟨gb221, 0, none⟩ = some (.int .i64 a0_0) ∧ w'.cell? ⟨gb221, 1, none⟩ = some (.int .i64 a0_1)) (ds := []) #[false, false, false, false, false, false, false, false, false, false] (by kernel_rfl) rfl rfl ⟨(blk_cell BK222.out 0).trans rfl, (blk_cell BK222.out 1).trans rfl, (blk_cell BK221.out 0).trans rfl, (blk_cell BK221.out 1).trans rfl⟩ (fun hHeld => ?_); refine with_tabW hornbeamref05_CmpSigned.tab8 hornbeamref05_CmpSigned.bits8 (fun HT_ HW_ => ?_)
            generalize w37.drew = w38 at HO226 HO229 HO232 BK221 BK222 HB hHeld ⊢
            refine pure_ (i := 0) (N := some 30) (v := ?_) (a' := ?_) #[true, false, false, false, false, false, false, false, false, false] rfl rfl (any_of HT_.out (by kernel_rfl)) (fun _ _ _ h => h) (Or.inl ⟨by rfl, ?_⟩) ?_ ?_
            rotate_left
            · intro w'
              go_simp
              with_reducible rfl
            rotate_left
            · simp only [Act.put, List.setIfInBounds_toArray, List.set_cons_zero, List.set_cons_succ, i64_w, i32_w]
              rfl
            refine pure_ (i := 4) (N := some 34) (v := ?_) (a' := ?_) #[true, false, false, false, true, false, false, false, false, false] rfl rfl (any_of HT_.out (by kernel_rfl)) (fun _ _ _ h => h) (Or.inl ⟨by rfl, ?_⟩) ?_ ?_
            rotate_left
            · intro w'
              go_simp
              with_reducible rfl
            rotate_left
            · simp only [Act.put, List.setIfInBounds_toArray, List.set_cons_zero, List.set_cons_succ, i64_w, i32_w]
              rfl
            refine take_ (i := 1) (N := some 31) (v := ?_) (a' := ?_) #[true, true, false, false, true, false, false, false, false, false] rfl rfl (take_ofW HT_.out HW_.out (by kernel_rfl)) (fun _ _ _ h => h) (Or.inl ⟨by rfl, ?_⟩) hHeld ?_ ?_
            rotate_left
            · rintro w' ⟨s0, s1, s2, s3⟩
              go_simp
              with_reducible rfl
            rotate_left
            · simp only [Act.put, List.setIfInBounds_toArray, List.set_cons_zero, List.set_cons_succ, i64_w, i32_w]
              rfl
            refine take_ (i := 5) (N := some 35) (v := ?_) (a' := ?_) #[true, true, false, false, true, true, false, false, false, false] rfl rfl (take_ofW HT_.out HW_.out (by kernel_rfl)) (fun _ _ _ h => h) (Or.inl ⟨by rfl, ?_⟩) hHeld ?_ ?_
            rotate_left
            · rintro w' ⟨s0, s1, s2, s3⟩
              go_simp
              with_reducible rfl
            rotate_left
            · simp only [Act.put, List.setIfInBounds_toArray, List.set_cons_zero, List.set_cons_succ, i64_w, i32_w]
              rfl
            refine pure_ (i := 6) (N := some 36) (v := ?_) (a' := ?_) #[true, true, false, false, true, true, true, false, false, false] rfl rfl (any_of HT_.out (by kernel_rfl)) (fun _ _ _ h => h) (Or.inl ⟨by rfl, ?_⟩) ?_ ?_
            rotate_left
            · intro w'
              go_simp
              with_reducible rfl
            rotate_left
            · simp only [Act.put, List.setIfInBounds_toArray, List.set_cons_zero, List.set_cons_succ, i64_w, i32_w]
              rfl
            refine one_ (i := 2) (N := some 32) #[true, true, true, false, true, true, true, false, false, false] rfl rfl (one_of HT_.out (by kernel_rfl)) (by decide) (fun K hK => ?_)
            refine goes_ Tryd.func32 (by kernel_rfl) rfl #[.int .i64 a1_0] (by rfl) rfl rfl (by (try simp only [List.map_toArray, List.map_cons, List.map_nil]); first | done | rfl | (simp only [List.length_drop, List.length_take]; rfl)) ?_
            with_reducible refine (hornbeamref04_Size.calls a1_0 t233 _ A24.out).mono ?_
            rintro e w' ⟨rfl, ⟨nd, rfl⟩⟩
            refine ⟨_, rfl, ?_⟩
            refine hK.out _ _ ⟨(blk_cell BK222.out 0).trans rfl, (blk_cell BK222.out 1).trans rfl, (blk_cell BK221.out 0).trans rfl, (blk_cell BK221.out 1).trans rfl⟩ (fun hHeld => ?_)
            clear hK K
            refine norm_ (a' := ?_) ?_ ?_
            rotate_left
            · show Act.put _ (some 32) _ = _
              simp only [Act.put, List.setIfInBounds_toArray, List.set_cons_zero, List.set_cons_succ, i64_w, i32_w]
              rfl
            refine one_ (i := 3) (N := some 33) #[true, true, true, true, true, true, true, false, false, false] rfl rfl (one_of HT_.out (by kernel_rfl)) (by decide) (fun K hK => ?_)
            refine goes_ Tryd.func29 (by kernel_rfl) rfl #[.int .u64 t233] (by rfl) rfl rfl (by (try simp only [List.map_toArray, List.map_cons, List.map_nil]); first | done | rfl | (simp only [List.length_drop, List.length_take]; rfl)) ?_
            with_reducible refine (hornbeamref04_Digits.calls t233 t234 _ A25.out).mono ?_
            rintro e w39 ⟨v235, rfl, ho0, hb⟩
            refine ⟨_, rfl, ?_⟩
            have n0_ := Aside0.mk (Kd.R_elder' (by (with_reducible repeat (first | apply Kd.R_alloc | apply Kd.R_drewN | apply Kd.R_drew)); exact HO226.out) (Kd.R_base ho0) hb)
            have n1_ := Aside0.mk (Kd.R_elder' (by (with_reducible repeat (first | apply Kd.R_alloc | apply Kd.R_drewN | apply Kd.R_drew)); exact HO229.out) (Kd.R_base ho0) hb)
            have n2_ := Aside0.mk (Kd.R_elder' (by (with_reducible repeat (first | apply Kd.R_alloc | apply Kd.R_drewN | apply Kd.R_drew)); exact HO232.out) (Kd.R_base ho0) hb)
            have n3_ := Aside0.mk (Kd.R_lower (Kd.R_new' (Kd.R_new' (Kd.R_new' ho0 (Kd.R_lt (by (with_reducible repeat (first | apply Kd.R_alloc | apply Kd.R_drewN | apply Kd.R_drew)); exact HO226.out))) (Kd.R_lt (by (with_reducible repeat (first | apply Kd.R_alloc | apply Kd.R_drewN | apply Kd.R_drew)); exact HO229.out))) (Kd.R_lt (by (with_reducible repeat (first | apply Kd.R_alloc | apply Kd.R_drewN | apply Kd.R_drew)); exact HO232.out))) (below_size (by repeat (first | (with_reducible first | exact HB.out | apply below_alloc | apply pw_below_drewN | apply below_drew1 | refine below_set ?_ GE221.out | refine below_set ?_ GE222.out) | exact HB.out))))
            have n4_ := Aside0.mk (blk_below (g := gb221) (o := .cells #[.int .i64 a0_0, .int .i64 a0_1] 31 (0, 0)) (by (with_reducible repeat (first | refine blk_drewN ?_ _ | refine blk_drew ?_ | refine blk_alloc ?_ _)); exact BK221.out) hb)
            have n5_ := Aside0.mk (blk_below (g := gb222) (o := .cells #[.int .i64 a1_0, .int .i64 a1_1] 31 (0, 0)) (by (with_reducible repeat (first | refine blk_drewN ?_ _ | refine blk_drew ?_ | refine blk_alloc ?_ _)); exact BK222.out) hb)
            have n6_ := Aside0.mk (below_step (by repeat (first | (with_reducible first | exact HB.out | apply below_alloc | apply pw_below_drewN | apply below_drew1 | refine below_set ?_ GE221.out | refine below_set ?_ GE222.out) | exact HB.out)) hb)
            clear HO226
            clear HO229
            clear HO232
            clear BK221
            clear BK222
            clear HB
            have HO226 := n0_
            have HO229 := n1_
            have HO232 := n2_
            have HO236 := n3_
            have BK221 := n4_
            have BK222 := n5_
            have HB := n6_
            clear n0_ n1_ n2_ n3_ n4_ n5_ n6_
            (try clear hb)
            (try clear hb2)
            (try clear hk)
            (try clear hi)
            (try clear ho0)
            refine hK.out _ _ ⟨(blk_cell BK222.out 0).trans rfl, (blk_cell BK222.out 1).trans rfl, (blk_cell BK221.out 0).trans rfl, (blk_cell BK221.out 1).trans rfl⟩ (fun hHeld => ?_)
            clear hK K
            refine norm_ (a' := ?_) ?_ ?_
            rotate_left
            · show Act.put _ (some 33) _ = _
              simp only [Act.put, List.setIfInBounds_toArray, List.set_cons_zero, List.set_cons_succ, i64_w, i32_w]
              rfl
            refine one_ (i := 7) (N := some 37) #[true, true, true, true, true, true, true, true, false, false] rfl rfl (one_of HT_.out (by kernel_rfl)) (by decide) (fun K hK => ?_)
            refine goes_ Tryd.func29 (by kernel_rfl) rfl #[.int .u64 (IntKind.u64.wrap (a0_1))] (by rfl) rfl rfl (by (try simp only [List.map_toArray, List.map_cons, List.map_nil]); first | done | rfl | (simp only [List.length_drop, List.length_take]; rfl)) ?_
            with_reducible refine (hornbeamref04_Digits.calls (IntKind.u64.wrap (a0_1)) t237 _ A26.out).mono ?_
            rintro e w40 ⟨v238, rfl, ho0, hb⟩
            refine ⟨_, rfl, ?_⟩
            have n0_ := Aside0.mk (Kd.R_elder' (by (with_reducible repeat (first | apply Kd.R_alloc | apply Kd.R_drewN | apply Kd.R_drew)); exact HO226.out) (Kd.R_base ho0) hb)
            have n1_ := Aside0.mk (Kd.R_elder' (by (with_reducible repeat (first | apply Kd.R_alloc | apply Kd.R_drewN | apply Kd.R_drew)); exact HO229.out) (Kd.R_base ho0) hb)
            have n2_ := Aside0.mk (Kd.R_elder' (by (with_reducible repeat (first | apply Kd.R_alloc | apply Kd.R_drewN | apply Kd.R_drew)); exact HO232.out) (Kd.R_base ho0) hb)
            have n3_ := Aside0.mk (Kd.R_elder' (by (with_reducible repeat (first | apply Kd.R_alloc | apply Kd.R_drewN | apply Kd.R_drew)); exact HO236.out) (Kd.R_base ho0) hb)
            have n4_ := Aside0.mk (Kd.R_lower (Kd.R_new' (Kd.R_new' (Kd.R_new' (Kd.R_new' ho0 (Kd.R_lt (by (with_reducible repeat (first | apply Kd.R_alloc | apply Kd.R_drewN | apply Kd.R_drew)); exact HO226.out))) (Kd.R_lt (by (with_reducible repeat (first | apply Kd.R_alloc | apply Kd.R_drewN | apply Kd.R_drew)); exact HO229.out))) (Kd.R_lt (by (with_reducible repeat (first | apply Kd.R_alloc | apply Kd.R_drewN | apply Kd.R_drew)); exact HO232.out))) (Kd.R_lt (by (with_reducible repeat (first | apply Kd.R_alloc | apply Kd.R_drewN | apply Kd.R_drew)); exact HO236.out))) (below_size (by repeat (first | (with_reducible first | exact HB.out | apply below_alloc | apply pw_below_drewN | apply below_drew1 | refine below_set ?_ GE221.out | refine below_set ?_ GE222.out) | exact HB.out))))
            have n5_ := Aside0.mk (blk_below (g := gb221) (o := .cells #[.int .i64 a0_0, .int .i64 a0_1] 31 (0, 0)) (by (with_reducible repeat (first | refine blk_drewN ?_ _ | refine blk_drew ?_ | refine blk_alloc ?_ _)); exact BK221.out) hb)
            have n6_ := Aside0.mk (blk_below (g := gb222) (o := .cells #[.int .i64 a1_0, .int .i64 a1_1] 31 (0, 0)) (by (with_reducible repeat (first | refine blk_drewN ?_ _ | refine blk_drew ?_ | refine blk_alloc ?_ _)); exact BK222.out) hb)
            have n7_ := Aside0.mk (below_step (by repeat (first | (with_reducible first | exact HB.out | apply below_alloc | apply pw_below_drewN | apply below_drew1 | refine below_set ?_ GE221.out | refine below_set ?_ GE222.out) | exact HB.out)) hb)
            clear HO226
            clear HO229
            clear HO232
            clear HO236
            clear BK221
            clear BK222
            clear HB
            have HO226 := n0_
            have HO229 := n1_
            have HO232 := n2_
            have HO236 := n3_
            have HO239 := n4_
            have BK221 := n5_
            have BK222 := n6_
            have HB := n7_
            clear n0_ n1_ n2_ n3_ n4_ n5_ n6_ n7_
            (try clear hb)
            (try clear hb2)
            (try clear hk)
            (try clear hi)
            (try clear ho0)
            obtain ⟨Ao41, co41, eo41⟩ := Kd.R_slice HO236.out
            (first | subst eo41 | (injection eo41 with f1_ f2_ f3_; have f4_ := f1_.symm; have f5_ := f3_.symm; clear f1_ f2_ f3_; subst f4_; subst f5_))
            obtain ⟨Ao42, co42, eo42⟩ := Kd.R_slice HO239.out
            (first | subst eo42 | (injection eo42 with f1_ f2_ f3_; have f4_ := f1_.symm; have f5_ := f3_.symm; clear f1_ f2_ f3_; subst f4_; subst f5_))
            refine hK.out _ _ ⟨(blk_cell BK222.out 0).trans rfl, (blk_cell BK222.out 1).trans rfl, (blk_cell BK221.out 0).trans rfl, (blk_cell BK221.out 1).trans rfl⟩ (fun hHeld => ?_)
            clear hK K
            refine norm_ (a' := ?_) ?_ ?_
            rotate_left
            · show Act.put _ (some 37) _ = _
              simp only [Act.put, List.setIfInBounds_toArray, List.set_cons_zero, List.set_cons_succ, i64_w, i32_w]
              rfl
            refine one_ (i := 8) (N := some 38) #[true, true, true, true, true, true, true, true, true, false] rfl rfl (one_of HT_.out (by kernel_rfl)) (by decide) (fun K hK => ?_)
            refine goes_ Tryd.func27 (by kernel_rfl) rfl #[.slice Ao41 t234.length co41, .slice Ao42 t237.length co42] (by rfl) rfl rfl (by (try simp only [List.map_toArray, List.map_cons, List.map_nil]); first | done | rfl | (simp only [List.length_drop, List.length_take]; rfl)) ?_
            with_reducible refine (hornbeamref04_Product.calls kj2 _ _ t234 _ _ t237 t240 _ ?side1 ?side2 ?side3 ?side4 A27.out).mono ?_
            (case side1 => repeat (first | exact (Kd.R_reads' HO236.out).2.2 | (with_reducible refine Kd.C_alloc ?_ _) | (with_reducible refine Kd.C_drewN ?_ _) | (with_reducible refine Kd.C_drew ?_)))
            (case side2 => exact (Kd.R_reads' HO236.out).2.1)
            (case side3 => repeat (first | exact (Kd.R_reads' HO239.out).2.2 | (with_reducible refine Kd.C_alloc ?_ _) | (with_reducible refine Kd.C_drewN ?_ _) | (with_reducible refine Kd.C_drew ?_)))
            (case side4 => exact (Kd.R_reads' HO239.out).2.1)
            rintro e w43 ⟨v241, rfl, ho0, hb⟩
            refine ⟨_, rfl, ?_⟩
            have n0_ := Aside0.mk (Kd.R_elder' (by (with_reducible repeat (first | apply Kd.R_alloc | apply Kd.R_drewN | apply Kd.R_drew)); exact HO226.out) (Kd.R_base ho0) hb)
            have n1_ := Aside0.mk (Kd.R_elder' (by (with_reducible repeat (first | apply Kd.R_alloc | apply Kd.R_drewN | apply Kd.R_drew)); exact HO229.out) (Kd.R_base ho0) hb)
            have n2_ := Aside0.mk (Kd.R_elder' (by (with_reducible repeat (first | apply Kd.R_alloc | apply Kd.R_drewN | apply Kd.R_drew)); exact HO232.out) (Kd.R_base ho0) hb)
            have n3_ := Aside0.mk (Kd.R_elder' (by (with_reducible repeat (first | apply Kd.R_alloc | apply Kd.R_drewN | apply Kd.R_drew)); exact HO236.out) (Kd.R_base ho0) hb)
            have n4_ := Aside0.mk (Kd.R_elder' (by (with_reducible repeat (first | apply Kd.R_alloc | apply Kd.R_drewN | apply Kd.R_drew)); exact HO239.out) (Kd.R_base ho0) hb)
            have n5_ := Aside0.mk (Kd.R_lower (Kd.R_new' (Kd.R_new' (Kd.R_new' (Kd.R_new' (Kd.R_new' ho0 (Kd.R_lt (by (with_reducible repeat (first | apply Kd.R_alloc | apply Kd.R_drewN | apply Kd.R_drew)); exact HO226.out))) (Kd.R_lt (by (with_reducible repeat (first | apply Kd.R_alloc | apply Kd.R_drewN | apply Kd.R_drew)); exact HO229.out))) (Kd.R_lt (by (with_reducible repeat (first | apply Kd.R_alloc | apply Kd.R_drewN | apply Kd.R_drew)); exact HO232.out))) (Kd.R_lt (by (with_reducible repeat (first | apply Kd.R_alloc | apply Kd.R_drewN | apply Kd.R_drew)); exact HO236.out))) (Kd.R_lt (by (with_reducible repeat (first | apply Kd.R_alloc | apply Kd.R_drewN | apply Kd.R_drew)); exact HO239.out))) (below_size (by repeat (first | (with_reducible first | exact HB.out | apply below_alloc | apply pw_below_drewN | apply below_drew1 | refine below_set ?_ GE221.out | refine below_set ?_ GE222.out) | exact HB.out))))
            have n6_ := Aside0.mk (blk_below (g := gb221) (o := .cells #[.int .i64 a0_0, .int .i64 a0_1] 31 (0, 0)) (by (with_reducible repeat (first | refine blk_drewN ?_ _ | refine blk_drew ?_ | refine blk_alloc ?_ _)); exact BK221.out) hb)
            have n7_ := Aside0.mk (blk_below (g := gb222) (o := .cells #[.int .i64 a1_0, .int .i64 a1_1] 31 (0, 0)) (by (with_reducible repeat (first | refine blk_drewN ?_ _ | refine blk_drew ?_ | refine blk_alloc ?_ _)); exact BK222.out) hb)
            have n8_ := Aside0.mk (below_step (by repeat (first | (with_reducible first | exact HB.out | apply below_alloc | apply pw_below_drewN | apply below_drew1 | refine below_set ?_ GE221.out | refine below_set ?_ GE222.out) | exact HB.out)) hb)
            clear HO226
            clear HO229
            clear HO232
            clear HO236
            clear HO239
            clear BK221
            clear BK222
            clear HB
            have HO226 := n0_
            have HO229 := n1_
            have HO232 := n2_
            have HO236 := n3_
            have HO239 := n4_
            have HO242 := n5_
            have BK221 := n6_
            have BK222 := n7_
            have HB := n8_
            clear n0_ n1_ n2_ n3_ n4_ n5_ n6_ n7_ n8_
            (try clear hb)
            (try clear hb2)
            (try clear hk)
            (try clear hi)
            (try clear ho0)
            refine hK.out _ _ ⟨(blk_cell BK222.out 0).trans rfl, (blk_cell BK222.out 1).trans rfl, (blk_cell BK221.out 0).trans rfl, (blk_cell BK221.out 1).trans rfl⟩ (fun hHeld => ?_)
            clear hK K
            refine norm_ (a' := ?_) ?_ ?_
            rotate_left
            · show Act.put _ (some 38) _ = _
              simp only [Act.put, List.setIfInBounds_toArray, List.set_cons_zero, List.set_cons_succ, i64_w, i32_w]
              rfl
            refine pure_ (i := 9) (N := some 6) (v := ?_) (a' := ?_) #[true, true, true, true, true, true, true, true, true, true] rfl rfl (any_of HT_.out (by kernel_rfl)) (fun _ _ _ h => h) (Or.inl ⟨by rfl, ?_⟩) ?_ ?_
            rotate_left
            · intro w'
              go_simp
              with_reducible rfl
            rotate_left
            · simp only [Act.put, List.setIfInBounds_toArray, List.set_cons_zero, List.set_cons_succ, i64_w, i32_w]
              rfl
            refine done_ (done_of HT_.out (by kernel_rfl)) ?_
            go_upto_region 9 with (fail)
            go_cut [46] (fun v46 wc => ∃ (kq : Nat) (x46_27 : Bool), v46 = .bool x46_27 ∧ Aside0 (hornbeamref05_CmpSigned.j1 kq t230 t240 x46_27 a0_0 a0_1 a1_0 a1_1 = some r) ∧ Aside0 (kq ≤ kj2) ∧ Aside0 (Kd.R (Kd.int .u64) 22 wc w.heap.size (fun k_ => some k_ ≠ (v241 : Value).ownBlock) v231 t230) ∧ Aside0 (Kd.R (Kd.int .u64) 22 wc w.heap.size (fun k_ => some k_ ≠ (v231 : Value).ownBlock) v241 t240) ∧ Aside0 (wc.heap[gb221]? = some (.cells #[.int .i64 a0_0, .int .i64 a0_1] 31 (0, 0))) ∧ Aside0 (wc.heap[gb222]? = some (.cells #[.int .i64 a1_0, .int .i64 a1_1] 31 (0, 0))) ∧ Aside0 (Below w.heap.size w wc))
            case first =>
              have H := HC28.out
              clear HC28
              by_cases c44 : a0_0 < 0
              · rw [if_pos c44] at H
                have c44b0 : decide (a0_0 < 0) = true := decide_eq_true c44
                clear c44
                (first | rw [c44b0] | (simp only [i64_w, i32_w]; rw [c44b0]) | skip)
                have H' := Aside0.mk H
                clear H
                have hnb45 := NB221_222.out
                have hnc45 := NB222_221.out
                have hcz46_0 : w43.cell? ⟨gb221, 0, none⟩ = some (.int .i64 a0_0) := (blk_cell BK221.out 0).trans rfl
                have hcz46_1 : w43.cell? ⟨gb221, 1, none⟩ = some (.int .i64 a0_1) := (blk_cell BK221.out 1).trans rfl
                have hfz46_0 := blk_frozen BK221.out 0
                have hfz46_1 := blk_frozen BK221.out 1
                have hcz47_0 : w43.cell? ⟨gb222, 0, none⟩ = some (.int .i64 a1_0) := (blk_cell BK222.out 0).trans rfl
                have hcz47_1 : w43.cell? ⟨gb222, 1, none⟩ = some (.int .i64 a1_1) := (blk_cell BK222.out 1).trans rfl
                have hfz47_0 := blk_frozen BK222.out 0
                have hfz47_1 := blk_frozen BK222.out 1
                go_wp2
                go_meet
                case rel => exact ⟨_, (decide (a1_0 < 0)), (by first | rfl | (simp; done) | (simp [*]; done)), H', ⟨by have := HJ2.out; first | omega | exact Nat.le_refl _⟩, ⟨by (with_reducible repeat (first | apply Kd.R_alloc | apply Kd.R_drewN | apply Kd.R_drew)); exact Kd.R_mono HO232.out (fun _ hk => hk.2)⟩, ⟨by (with_reducible repeat (first | apply Kd.R_alloc | apply Kd.R_drewN | apply Kd.R_drew)); exact Kd.R_mono HO242.out (fun _ hk => hk.1.1.2)⟩, ⟨by (with_reducible repeat (first | refine blk_drewN ?_ _ | refine blk_drew ?_ | refine blk_alloc ?_ _)); exact BK221.out⟩, ⟨by (with_reducible repeat (first | refine blk_drewN ?_ _ | refine blk_drew ?_ | refine blk_alloc ?_ _)); exact BK222.out⟩, ⟨by repeat (first | (with_reducible first | exact HB.out | apply below_alloc | apply pw_below_drewN | apply below_drew1 | refine below_set ?_ GE221.out | refine below_set ?_ GE222.out) | exact HB.out)⟩⟩
              · rw [if_neg c44] at H
                have c44b0 : decide (a0_0 < 0) = false := decide_eq_false c44
                clear c44
                (first | rw [c44b0] | (simp only [i64_w, i32_w]; rw [c44b0]) | skip)
                have H' := Aside0.mk H
                clear H
                have hnb48 := NB221_222.out
                have hnc48 := NB222_221.out
                have hcz49_0 : w43.cell? ⟨gb221, 0, none⟩ = some (.int .i64 a0_0) := (blk_cell BK221.out 0).trans rfl
                have hcz49_1 : w43.cell? ⟨gb221, 1, none⟩ = some (.int .i64 a0_1) := (blk_cell BK221.out 1).trans rfl
                have hfz49_0 := blk_frozen BK221.out 0
                have hfz49_1 := blk_frozen BK221.out 1
                go_wp2
                go_meet
                case rel => exact ⟨_, (false), (by first | rfl | (simp; done) | (simp [*]; done)), H', ⟨by have := HJ2.out; first | omega | exact Nat.le_refl _⟩, ⟨by (with_reducible repeat (first | apply Kd.R_alloc | apply Kd.R_drewN | apply Kd.R_drew)); exact Kd.R_mono HO232.out (fun _ hk => hk.2)⟩, ⟨by (with_reducible repeat (first | apply Kd.R_alloc | apply Kd.R_drewN | apply Kd.R_drew)); exact Kd.R_mono HO242.out (fun _ hk => hk.1.1.2)⟩, ⟨by (with_reducible repeat (first | refine blk_drewN ?_ _ | refine blk_drew ?_ | refine blk_alloc ?_ _)); exact BK221.out⟩, ⟨by (with_reducible repeat (first | refine blk_drewN ?_ _ | refine blk_drew ?_ | refine blk_alloc ?_ _)); exact BK222.out⟩, ⟨by repeat (first | (with_reducible first | exact HB.out | apply below_alloc | apply pw_below_drewN | apply below_drew1 | refine below_set ?_ GE221.out | refine below_set ?_ GE222.out) | exact HB.out)⟩⟩
            case rest =>
              clear HC28
              try clear c1
              try clear c2
              try clear p2
              try clear c3
              try clear c4
              try clear c6
              try clear c6b0
              try clear c7
              try clear c10
              try clear c12
              try clear c13
              try clear c13b0
              try clear c14
              try clear c16
              try clear c16b0
              try clear c17
              try clear c27
              try clear c29
              try clear c32
              try clear c44
              try clear c44b0
              try clear c45
              try clear c48
              try clear hcz11_0
              try clear hcz11_1
              try clear hcz15_0
              try clear hcz15_1
              try clear hcz18_0
              try clear hcz18_1
              try clear hcz19_0
              try clear hcz19_1
              try clear hcz30_0
              try clear hcz30_1
              try clear hcz31_0
              try clear hcz31_1
              try clear hcz46_0
              try clear hcz46_1
              try clear hcz47_0
              try clear hcz47_1
              try clear hcz49_0
              try clear hcz49_1
              try clear hcz8_0
              try clear hcz8_1
              try clear hcz9_0
              try clear hcz9_1
              try clear hfz11_0
              try clear hfz11_1
              try clear hfz15_0
              try clear hfz15_1
              try clear hfz18_0
              try clear hfz18_1
              try clear hfz19_0
              try clear hfz19_1
              try clear hfz30_0
              try clear hfz30_1
              try clear hfz31_0
              try clear hfz31_1
              try clear hfz46_0
              try clear hfz46_1
              try clear hfz47_0
              try clear hfz47_1
              try clear hfz49_0
              try clear hfz49_1
              try clear hfz8_0
              try clear hfz8_1
              try clear hfz9_0
              try clear hfz9_1
              try clear p2
              obtain ⟨kq, x46_27, rfl, HA, HJ27, HO_5, HO_6, BK221, BK222, HB⟩ := hcut
              cases kq with
              | zero => exact absurd HA.out (by simp [hornbeamref05_CmpSigned.j1])
              | succ kj27 =>
                have H := HA.out
                clear HA
                simp only [hornbeamref05_CmpSigned.j1] at H
                by_cases c50 : x46_27 = true
                · subst c50
                  have H1 : ((hornbeamref04_Compare.f kj27 t240 t230).bind fun t243 => (some t243)) = some r := by rw [if_pos rfl] at H; exact H
                  clear H
                  have H := H1
                  clear H1
                  replace H := Option.bind_eq_some_iff.mp H
                  obtain ⟨t243, A510, H⟩ := H
                  replace H : (some t243) = some r := H
                  have A51 := Aside0.mk A510
                  clear A510
                  obtain rfl := Option.some.inj H
                  obtain ⟨Ao52, co52, eo52⟩ := Kd.R_slice HO_6.out
                  subst eo52
                  obtain ⟨Ao53, co53, eo53⟩ := Kd.R_slice HO_5.out
                  subst eo53
                  go_wp2_with (first | ((with_reducible refine gate_callee (f := 26) rfl ?_); refine goesL_ (some 49) rfl rfl Tryd.func26 (by kernel_rfl) rfl #[.slice Ao52 t240.length co52, .slice Ao53 t230.length co53] rfl (by (try simp only [List.map_toArray, List.map_cons, List.map_nil]); first | done | rfl | (simp only [List.length_drop, List.length_take]; rfl)) ?_; (with_reducible refine (hornbeamref04_Compare.calls kj27 _ _ t240 _ _ t230 t243 _ ?side1 ?side2 ?side3 ?side4 A51.out).mono ?_); (case side1 => repeat (first | exact (Kd.R_reads' HO_6.out).2.2 | (with_reducible refine Kd.C_alloc ?_ _) | (with_reducible refine Kd.C_drewN ?_ _) | (with_reducible refine Kd.C_drew ?_))); (case side2 => exact (Kd.R_reads' HO_6.out).2.1); (case side3 => repeat (first | exact (Kd.R_reads' HO_5.out).2.2 | (with_reducible refine Kd.C_alloc ?_ _) | (with_reducible refine Kd.C_drewN ?_ _) | (with_reducible refine Kd.C_drew ?_))); (case side4 => exact (Kd.R_reads' HO_5.out).2.1); rintro e w' ⟨rfl, ⟨nd, rfl⟩⟩; refine ⟨_, rfl, ?_⟩))
                  all_goals (go_ret; exact ⟨by first | rfl | (simp [errW_none, errW_some] <;> rfl) | (simp [*, errW_none, errW_some] <;> rfl) | (simp_all; done), by repeat (first | (with_reducible first | exact HB.out | apply below_alloc | apply pw_below_drewN | apply below_drew1 | refine below_set ?_ GE221.out | refine below_set ?_ GE222.out) | exact HB.out)⟩)
                · replace c50 := Bool.eq_false_iff.mpr c50
                  subst c50
                  have H1 : (if a0_0 < 0 then (some (-1)) else (if a1_0 < 0 then (some 1) else ((hornbeamref04_Compare.f kj27 t230 t240).bind fun t244 => (some t244)))) = some r := by rw [if_neg (show ¬ (false = true) by decide)] at H; exact H
                  clear H
                  have H := H1
                  clear H1
                  by_cases c54 : a0_0 < 0
                  · rw [if_pos c54] at H
                    have c54b0 : decide (a0_0 < 0) = true := decide_eq_true c54
                    clear c54
                    obtain rfl := Option.some.inj H
                    have hnb55 := NB221_222.out
                    have hnc55 := NB222_221.out
                    have hcz56_0 : wc.cell? ⟨gb221, 0, none⟩ = some (.int .i64 a0_0) := (blk_cell BK221.out 0).trans rfl
                    have hcz56_1 : wc.cell? ⟨gb221, 1, none⟩ = some (.int .i64 a0_1) := (blk_cell BK221.out 1).trans rfl
                    have hfz56_0 := blk_frozen BK221.out 0
                    have hfz56_1 := blk_frozen BK221.out 1
                    go_wp2
                    all_goals (go_ret; exact ⟨by first | rfl | (simp [errW_none, errW_some] <;> rfl) | (simp [*, errW_none, errW_some] <;> rfl) | (simp_all; done), by repeat (first | (with_reducible first | exact HB.out | apply below_alloc | apply pw_below_drewN | apply below_drew1 | refine below_set ?_ GE221.out | refine below_set ?_ GE222.out) | exact HB.out)⟩)
                  · rw [if_neg c54] at H
                    have c54b0 : decide (a0_0 < 0) = false := decide_eq_false c54
                    clear c54
                    by_cases c57 : a1_0 < 0
                    · rw [if_pos c57] at H
                      have c57b0 : decide (a1_0 < 0) = true := decide_eq_true c57
                      clear c57
                      obtain rfl := Option.some.inj H
                      have hnb58 := NB221_222.out
                      have hnc58 := NB222_221.out
                      have hcz59_0 : wc.cell? ⟨gb221, 0, none⟩ = some (.int .i64 a0_0) := (blk_cell BK221.out 0).trans rfl
                      have hcz59_1 : wc.cell? ⟨gb221, 1, none⟩ = some (.int .i64 a0_1) := (blk_cell BK221.out 1).trans rfl
                      have hfz59_0 := blk_frozen BK221.out 0
                      have hfz59_1 := blk_frozen BK221.out 1
                      have hcz60_0 : wc.cell? ⟨gb222, 0, none⟩ = some (.int .i64 a1_0) := (blk_cell BK222.out 0).trans rfl
                      have hcz60_1 : wc.cell? ⟨gb222, 1, none⟩ = some (.int .i64 a1_1) := (blk_cell BK222.out 1).trans rfl
                      have hfz60_0 := blk_frozen BK222.out 0
                      have hfz60_1 := blk_frozen BK222.out 1
                      go_wp2
                      all_goals (go_ret; exact ⟨by first | rfl | (simp [errW_none, errW_some] <;> rfl) | (simp [*, errW_none, errW_some] <;> rfl) | (simp_all; done), by repeat (first | (with_reducible first | exact HB.out | apply below_alloc | apply pw_below_drewN | apply below_drew1 | refine below_set ?_ GE221.out | refine below_set ?_ GE222.out) | exact HB.out)⟩)
                    · rw [if_neg c57] at H
                      have c57b0 : decide (a1_0 < 0) = false := decide_eq_false c57
                      clear c57
                      replace H := Option.bind_eq_some_iff.mp H
                      obtain ⟨t244, A610, H⟩ := H
                      replace H : (some t244) = some r := H
                      have A61 := Aside0.mk A610
                      clear A610
                      obtain rfl := Option.some.inj H
                      have hnb62 := NB221_222.out
                      have hnc62 := NB222_221.out
                      have hcz63_0 : wc.cell? ⟨gb221, 0, none⟩ = some (.int .i64 a0_0) := (blk_cell BK221.out 0).trans rfl
                      have hcz63_1 : wc.cell? ⟨gb221, 1, none⟩ = some (.int .i64 a0_1) := (blk_cell BK221.out 1).trans rfl
                      have hfz63_0 := blk_frozen BK221.out 0
                      have hfz63_1 := blk_frozen BK221.out 1
                      have hcz64_0 : wc.cell? ⟨gb222, 0, none⟩ = some (.int .i64 a1_0) := (blk_cell BK222.out 0).trans rfl
                      have hcz64_1 : wc.cell? ⟨gb222, 1, none⟩ = some (.int .i64 a1_1) := (blk_cell BK222.out 1).trans rfl
                      have hfz64_0 := blk_frozen BK222.out 0
                      have hfz64_1 := blk_frozen BK222.out 1
                      obtain ⟨Ao65, co65, eo65⟩ := Kd.R_slice HO_5.out
                      subst eo65
                      obtain ⟨Ao66, co66, eo66⟩ := Kd.R_slice HO_6.out
                      subst eo66
                      go_wp2_with (first | ((with_reducible refine gate_callee (f := 26) rfl ?_); refine goesL_ (some 58) rfl rfl Tryd.func26 (by kernel_rfl) rfl #[.slice Ao65 t230.length co65, .slice Ao66 t240.length co66] rfl (by (try simp only [List.map_toArray, List.map_cons, List.map_nil]); first | done | rfl | (simp only [List.length_drop, List.length_take]; rfl)) ?_; (with_reducible refine (hornbeamref04_Compare.calls kj27 _ _ t230 _ _ t240 t244 _ ?side1 ?side2 ?side3 ?side4 A61.out).mono ?_); (case side1 => repeat (first | exact (Kd.R_reads' HO_5.out).2.2 | (with_reducible refine Kd.C_alloc ?_ _) | (with_reducible refine Kd.C_drewN ?_ _) | (with_reducible refine Kd.C_drew ?_))); (case side2 => exact (Kd.R_reads' HO_5.out).2.1); (case side3 => repeat (first | exact (Kd.R_reads' HO_6.out).2.2 | (with_reducible refine Kd.C_alloc ?_ _) | (with_reducible refine Kd.C_drewN ?_ _) | (with_reducible refine Kd.C_drew ?_))); (case side4 => exact (Kd.R_reads' HO_6.out).2.1); rintro e w' ⟨rfl, ⟨nd, rfl⟩⟩; refine ⟨_, rfl, ?_⟩))
                      all_goals (go_ret; exact ⟨by first | rfl | (simp [errW_none, errW_some] <;> rfl) | (simp [*, errW_none, errW_some] <;> rfl) | (simp_all; done), by repeat (first | (with_reducible first | exact HB.out | apply below_alloc | apply pw_below_drewN | apply below_drew1 | refine below_set ?_ GE221.out | refine below_set ?_ GE222.out) | exact HB.out)⟩)

end Go.Proofs.YtpbgfmbkjojdeaaDoor.QFracOrder
