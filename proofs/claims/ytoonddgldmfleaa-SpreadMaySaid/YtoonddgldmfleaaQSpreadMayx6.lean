-- Written by a program of this session (wip/tools/mkprint.py over the kit's print); Lean checks it.
import Derived.Test.YtoonddgldmfleaaQSpreadMayx0
import Derived.Test.YtoonddgldmfleaaQSpreadMayx3
import Derived.Test.YtoonddgldmfleaaQSpreadMayx4
import Derived.Test.YtoonddgldmfleaaQSpreadMayx5
namespace Go.Proofs.Ytoonddgldmfleaa.QSpreadMay
open Go.RowKit Go.Proofs.YtoonddgldmfleaaW.PrintWords Go.Proofs.YtoonddgldmfleaaW.PrintLast Go.Proofs.YtoonddgldmfleaaW.PrintMore
attribute [local go_sem] max2_int min2_int max_two min_two max_three min_three max_four min_four   -- for this text's walks alone
set_option linter.unusedVariables false
set_option linter.unusedSimpArgs false

/-! ### spread_Pure: function 18 -/
def spread_Pure.f (k : Nat) (a0_0 : Int) (a0_1 : Int) (a0_2 : Int) : Option (Bool) := (spread_May.f k a0_0 a0_1 a0_2).bind fun t158 => (if t158 = true then ((prod_Square.f a0_1).bind fun bt159 => ((spread_bound.f a0_0 a0_1 a0_2).bind fun bt161 => ((prod_Cmp.f k bt159.1 bt159.2 bt161.1 bt161.2).bind fun t163 => (some (t163 == 0))))) else (some false))
theorem spread_Pure.mono : ∀ a0 a1 a2 k, LeO (spread_Pure.f k a0 a1 a2) (spread_Pure.f (k + 1) a0 a1 a2) := by
  intro a0 a1 a2 k
  unfold spread_Pure.f
  repeat' first
      | (with_reducible exact prod_Cmp.mono _ _ _ _ _)
      | (with_reducible exact spread_May.mono _ _ _ _)
      | (with_reducible exact LeO.refl _)
      | (with_reducible exact LeO.none _)
      | (with_reducible refine LeO.ite ?_ ?_)
      | (with_reducible refine LeO.bind ?_ (fun _ => ?_))
      | exact prod_Cmp.mono _ _ _ _ _
      | exact spread_May.mono _ _ _ _
      | exact LeO.none _
      | refine LeO.ite ?_ ?_
      | refine LeO.bind ?_ (fun _ => ?_)
def spread_Pure.T1 : Bool × List (List Nat × List Nat) := (true, [([], []), ([0], [0]), ([1, 1], [1]), ([2], [2]), ([3, 2], [2, 3]), ([4, 2, 2], [2, 4]), ([2], [2]), ([6, 5, 2], [2, 6]), ([5, 7, 7, 2], [2, 5, 7]), ([8, 2], [2, 8]), ([2, 9], [2, 9]), ([10, 8, 0, 1, 2, 3, 4, 5, 6, 7, 8, 9, 10], [10])])
def spread_Pure.B1 : List Nat := [0, 1, 3, 7, 15, 31, 7, 127, 255, 511, 1023, 2047]
theorem spread_Pure.tab1 : rtab .any (opsOf Try.f18 1) = spread_Pure.T1 := by kernel_rfl
theorem spread_Pure.bits1 : waitsOk spread_Pure.T1.2 spread_Pure.B1 = true := by kernel_rfl
set_option maxHeartbeats 8000000 in
set_option maxRecDepth 100000 in
theorem spread_Pure.calls (k : Nat) (a0_0 : Int) (a0_1 : Int) (a0_2 : Int) (r : Bool) (w : World) (h : spread_Pure.f k a0_0 a0_1 a0_2 = some r) :
    Calls Try.prog 18 #[.agg #[.int .i64 a0_0, .int .i64 a0_1, .int .i64 a0_2]] w fun e w' => e = .returned (.bool r) ∧ Below w.heap.size w w' := by
  have hu26 := Try.underlying26
  have HB := Aside0.mk (Below.refl w.heap.size w)
  have H : ((spread_May.f k a0_0 a0_1 a0_2).bind fun t158 => (if t158 = true then ((prod_Square.f a0_1).bind fun bt159 => ((spread_bound.f a0_0 a0_1 a0_2).bind fun bt161 => ((prod_Cmp.f k bt159.1 bt159.2 bt161.1 bt161.2).bind fun t163 => (some (t163 == 0))))) else (some false))) = some r := h
  clear h
  replace H := Option.bind_eq_some_iff.mp H
  obtain ⟨t158, A20, H⟩ := H
  replace H : (if t158 = true then ((prod_Square.f a0_1).bind fun bt159 => ((spread_bound.f a0_0 a0_1 a0_2).bind fun bt161 => ((prod_Cmp.f k bt159.1 bt159.2 bt161.1 bt161.2).bind fun t163 => (some (t163 == 0))))) else (some false)) = some r := H
  have A2 := Aside0.mk A20
  clear A20
  by_cases c3 : t158 = true
  · subst c3
    have H1 : ((prod_Square.f a0_1).bind fun bt159 => ((spread_bound.f a0_0 a0_1 a0_2).bind fun bt161 => ((prod_Cmp.f k bt159.1 bt159.2 bt161.1 bt161.2).bind fun t163 => (some (t163 == 0))))) = some r := by rw [if_pos rfl] at H; exact H
    clear H
    have H := H1
    clear H1
    replace H := Option.bind_eq_some_iff.mp H
    obtain ⟨⟨t159, t160⟩, A40, H⟩ := H
    replace H : ((spread_bound.f a0_0 a0_1 a0_2).bind fun bt161 => ((prod_Cmp.f k t159 t160 bt161.1 bt161.2).bind fun t163 => (some (t163 == 0)))) = some r := H
    have A4 := Aside0.mk A40
    clear A40
    replace H := Option.bind_eq_some_iff.mp H
    obtain ⟨⟨t161, t162⟩, A50, H⟩ := H
    replace H : ((prod_Cmp.f k t159 t160 t161 t162).bind fun t163 => (some (t163 == 0))) = some r := H
    have A5 := Aside0.mk A50
    clear A50
    replace H := Option.bind_eq_some_iff.mp H
    obtain ⟨t163, A60, H⟩ := H
    replace H : (some (t163 == 0)) = some r := H
    have A6 := Aside0.mk A60
    clear A60
    obtain rfl := Option.some.inj H
    go_enter Try.func18, Try.ntmps18
    try go_wp2_with (first | ((with_reducible refine gate_dst (N := 1) rfl ?_); refine box_event ?hg (N := 1) ?hd (cs := #[.int .i64 a0_0, .int .i64 a0_1, .int .i64 a0_2]) (t := 26) ?hr ?_; (case hd => rfl); (case hg => rfl); (case hr => first | (go_simp; done) | (go_simp; rfl)); intro gb157 hg w7 hbox hb; have n0_ := Aside0.mk (below_step (by repeat (first | (with_reducible first | exact HB.out | apply below_alloc | apply pw_below_drewN | apply below_drew1) | exact HB.out)) hb); have n1_ := Aside0.mk (hbox); have n2_ := Aside0.mk ((by rw [hg]; exact (below_size (by repeat (first | (with_reducible first | exact HB.out | apply below_alloc | apply pw_below_drewN | apply below_drew1) | exact HB.out))) : w.heap.size ≤ gb157)); have n3_ := Aside0.mk ((by rw [hg]; exact (below_size (by repeat (first | (with_reducible first | exact HB.out | apply below_alloc | apply pw_below_drewN | apply below_drew1) | exact HB.out))) : w.heap.size ≤ gb157)); clear HB; have HB := n0_; have BK157 := n1_; have GW157 := n2_; have GE157 := n3_; clear n0_ n1_ n2_ n3_; clear hb hbox hg))
    have n0_ := Aside0.mk (blk_drew BK157.out)
    have n1_ := Aside0.mk (below_drew1 HB.out)
    clear BK157
    clear HB
    have BK157 := n0_
    have HB := n1_
    clear n0_ n1_
    refine start_ (n := 12) (S := fun w' => w'.cell? ⟨gb157, 0, none⟩ = some (.int .i64 a0_0) ∧ w'.cell? ⟨gb157, 1, none⟩ = some (.int .i64 a0_1) ∧ w'.cell? ⟨gb157, 2, none⟩ = some (.int .i64 a0_2)) (ds := []) #[false, false, false, false, false, false, false, false, false, false, false, false] (by kernel_rfl) rfl rfl ⟨(blk_cell BK157.out 0).trans rfl, (blk_cell BK157.out 1).trans rfl, (blk_cell BK157.out 2).trans rfl⟩ (fun hHeld => ?_); refine with_tabW spread_Pure.tab1 spread_Pure.bits1 (fun HT_ HW_ => ?_)
    generalize w7.drew = w8 at BK157 HB hHeld ⊢
    refine take_ (i := 0) (N := some 3) (v := ?_) (a' := ?_) #[true, false, false, false, false, false, false, false, false, false, false, false] rfl rfl (take_ofW HT_.out HW_.out (by kernel_rfl)) (fun _ _ _ h => h) (Or.inl ⟨by rfl, ?_⟩) hHeld ?_ ?_
    rotate_left
    · rintro w' ⟨s0, s1, s2⟩
      go_simp
      with_reducible rfl
    rotate_left
    · simp only [Act.put, List.setIfInBounds_toArray, List.set_cons_zero, List.set_cons_succ, i64_w, i32_w]
      rfl
    refine one_ (i := 1) (N := some 4) #[true, true, false, false, false, false, false, false, false, false, false, false] rfl rfl (one_of HT_.out (by kernel_rfl)) (by decide) (fun K hK => ?_)
    refine goes_ Try.func17 (by kernel_rfl) rfl #[.agg #[.int .i64 a0_0, .int .i64 a0_1, .int .i64 a0_2]] (by rfl) rfl rfl (by (try simp only [List.map_toArray, List.map_cons, List.map_nil]); first | done | rfl | (simp only [List.length_drop, List.length_take]; rfl)) ?_
    with_reducible refine (spread_May.calls k a0_0 a0_1 a0_2 true _ A2.out).mono ?_
    rintro e w9 ⟨rfl, hb⟩
    refine ⟨_, rfl, ?_⟩
    have n0_ := Aside0.mk (blk_below (g := gb157) (o := .cells #[.int .i64 a0_0, .int .i64 a0_1, .int .i64 a0_2] 26 (0, 0)) (by (with_reducible repeat (first | refine blk_drewN ?_ _ | refine blk_drew ?_ | refine blk_alloc ?_ _)); exact BK157.out) hb)
    have n1_ := Aside0.mk (below_step (by repeat (first | (with_reducible first | exact HB.out | apply below_alloc | apply pw_below_drewN | apply below_drew1 | refine below_set ?_ GE157.out) | exact HB.out)) hb)
    clear BK157
    clear HB
    have BK157 := n0_
    have HB := n1_
    clear n0_ n1_
    (try clear hb)
    (try clear hb2)
    (try clear hk)
    (try clear hi)
    refine hK.out _ _ ⟨(blk_cell BK157.out 0).trans rfl, (blk_cell BK157.out 1).trans rfl, (blk_cell BK157.out 2).trans rfl⟩ (fun hHeld => ?_)
    clear hK K
    refine norm_ (a' := ?_) ?_ ?_
    rotate_left
    · show Act.put _ (some 4) _ = _
      simp only [Act.put, List.setIfInBounds_toArray, List.set_cons_zero, List.set_cons_succ, i64_w, i32_w]
      rfl
    refine pure_ (i := 2) (N := some 5) (v := ?_) (a' := ?_) #[true, true, true, false, false, false, false, false, false, false, false, false] rfl rfl (any_of HT_.out (by kernel_rfl)) (fun _ _ _ h => h) (Or.inl ⟨by rfl, ?_⟩) ?_ ?_
    rotate_left
    · intro w'
      go_simp
      with_reducible rfl
    rotate_left
    · simp only [Act.put, List.setIfInBounds_toArray, List.set_cons_zero, List.set_cons_succ, i64_w, i32_w]
      rfl
    refine pure_ (i := 3) (N := some 6) (v := ?_) (a' := ?_) #[true, true, true, true, false, false, false, false, false, false, false, false] rfl rfl (any_of HT_.out (by kernel_rfl)) (fun _ _ _ h => h) (Or.inl ⟨by rfl, ?_⟩) ?_ ?_
    rotate_left
    · intro w'
      go_simp
      with_reducible rfl
    rotate_left
    · simp only [Act.put, List.setIfInBounds_toArray, List.set_cons_zero, List.set_cons_succ, i64_w, i32_w]
      rfl
    refine take_ (i := 4) (N := some 7) (v := ?_) (a' := ?_) #[true, true, true, true, true, false, false, false, false, false, false, false] rfl rfl (take_ofW HT_.out HW_.out (by kernel_rfl)) (fun _ _ _ h => h) (Or.inl ⟨by rfl, ?_⟩) hHeld ?_ ?_
    rotate_left
    · rintro w' ⟨s0, s1, s2⟩
      go_simp
      with_reducible rfl
    rotate_left
    · simp only [Act.put, List.setIfInBounds_toArray, List.set_cons_zero, List.set_cons_succ, i64_w, i32_w]
      rfl
    refine take_ (i := 6) (N := some 9) (v := ?_) (a' := ?_) #[true, true, true, true, true, false, true, false, false, false, false, false] rfl rfl (take_ofW HT_.out HW_.out (by kernel_rfl)) (fun _ _ _ h => h) (Or.inl ⟨by rfl, ?_⟩) hHeld ?_ ?_
    rotate_left
    · rintro w' ⟨s0, s1, s2⟩
      go_simp
      with_reducible rfl
    rotate_left
    · simp only [Act.put, List.setIfInBounds_toArray, List.set_cons_zero, List.set_cons_succ, i64_w, i32_w]
      rfl
    refine one_ (i := 5) (N := some 8) #[true, true, true, true, true, true, true, false, false, false, false, false] rfl rfl (one_of HT_.out (by kernel_rfl)) (by decide) (fun K hK => ?_)
    refine goes_ Try.func46 (by kernel_rfl) rfl #[.int .i64 a0_1] (by rfl) rfl rfl (by (try simp only [List.map_toArray, List.map_cons, List.map_nil]); first | done | rfl | (simp only [List.length_drop, List.length_take]; rfl)) ?_
    with_reducible refine (prod_Square.calls a0_1 t159 t160 _ A4.out).mono ?_
    rintro e w10 ⟨rfl, hb⟩
    refine ⟨_, rfl, ?_⟩
    have n0_ := Aside0.mk (blk_below (g := gb157) (o := .cells #[.int .i64 a0_0, .int .i64 a0_1, .int .i64 a0_2] 26 (0, 0)) (by (with_reducible repeat (first | refine blk_drewN ?_ _ | refine blk_drew ?_ | refine blk_alloc ?_ _)); exact BK157.out) hb)
    have n1_ := Aside0.mk (below_step (by repeat (first | (with_reducible first | exact HB.out | apply below_alloc | apply pw_below_drewN | apply below_drew1 | refine below_set ?_ GE157.out) | exact HB.out)) hb)
    clear BK157
    clear HB
    have BK157 := n0_
    have HB := n1_
    clear n0_ n1_
    (try clear hb)
    (try clear hb2)
    (try clear hk)
    (try clear hi)
    refine hK.out _ _ ⟨(blk_cell BK157.out 0).trans rfl, (blk_cell BK157.out 1).trans rfl, (blk_cell BK157.out 2).trans rfl⟩ (fun hHeld => ?_)
    clear hK K
    refine norm_ (a' := ?_) ?_ ?_
    rotate_left
    · show Act.put _ (some 8) _ = _
      simp only [Act.put, List.setIfInBounds_toArray, List.set_cons_zero, List.set_cons_succ, i64_w, i32_w]
      rfl
    refine one_ (i := 7) (N := some 10) #[true, true, true, true, true, true, true, true, false, false, false, false] rfl rfl (one_of HT_.out (by kernel_rfl)) (by decide) (fun K hK => ?_)
    refine goes_ Try.func47 (by kernel_rfl) rfl #[.agg #[.int .i64 a0_0, .int .i64 a0_1, .int .i64 a0_2]] (by rfl) rfl rfl (by (try simp only [List.map_toArray, List.map_cons, List.map_nil]); first | done | rfl | (simp only [List.length_drop, List.length_take]; rfl)) ?_
    with_reducible refine (spread_bound.calls a0_0 a0_1 a0_2 t161 t162 _ A5.out).mono ?_
    rintro e w11 ⟨rfl, hb⟩
    refine ⟨_, rfl, ?_⟩
    have n0_ := Aside0.mk (blk_below (g := gb157) (o := .cells #[.int .i64 a0_0, .int .i64 a0_1, .int .i64 a0_2] 26 (0, 0)) (by (with_reducible repeat (first | refine blk_drewN ?_ _ | refine blk_drew ?_ | refine blk_alloc ?_ _)); exact BK157.out) hb)
    have n1_ := Aside0.mk (below_step (by repeat (first | (with_reducible first | exact HB.out | apply below_alloc | apply pw_below_drewN | apply below_drew1 | refine below_set ?_ GE157.out) | exact HB.out)) hb)
    clear BK157
    clear HB
    have BK157 := n0_
    have HB := n1_
    clear n0_ n1_
    (try clear hb)
    (try clear hb2)
    (try clear hk)
    (try clear hi)
    refine hK.out _ _ ⟨(blk_cell BK157.out 0).trans rfl, (blk_cell BK157.out 1).trans rfl, (blk_cell BK157.out 2).trans rfl⟩ (fun hHeld => ?_)
    clear hK K
    refine norm_ (a' := ?_) ?_ ?_
    rotate_left
    · show Act.put _ (some 10) _ = _
      simp only [Act.put, List.setIfInBounds_toArray, List.set_cons_zero, List.set_cons_succ, i64_w, i32_w]
      rfl
    refine one_ (i := 8) (N := some 11) #[true, true, true, true, true, true, true, true, true, false, false, false] rfl rfl (one_of HT_.out (by kernel_rfl)) (by decide) (fun K hK => ?_)
    refine goes_ Try.func45 (by kernel_rfl) rfl #[.agg #[.int .u64 t159, .int .u64 t160], .agg #[.int .u64 t161, .int .u64 t162]] (by rfl) rfl rfl (by (try simp only [List.map_toArray, List.map_cons, List.map_nil]); first | done | rfl | (simp only [List.length_drop, List.length_take]; rfl)) ?_
    with_reducible refine (prod_Cmp.calls k t159 t160 t161 t162 t163 _ A6.out).mono ?_
    rintro e w12 ⟨rfl, hb⟩
    refine ⟨_, rfl, ?_⟩
    have n0_ := Aside0.mk (blk_below (g := gb157) (o := .cells #[.int .i64 a0_0, .int .i64 a0_1, .int .i64 a0_2] 26 (0, 0)) (by (with_reducible repeat (first | refine blk_drewN ?_ _ | refine blk_drew ?_ | refine blk_alloc ?_ _)); exact BK157.out) hb)
    have n1_ := Aside0.mk (below_step (by repeat (first | (with_reducible first | exact HB.out | apply below_alloc | apply pw_below_drewN | apply below_drew1 | refine below_set ?_ GE157.out) | exact HB.out)) hb)
    clear BK157
    clear HB
    have BK157 := n0_
    have HB := n1_
    clear n0_ n1_
    (try clear hb)
    (try clear hb2)
    (try clear hk)
    (try clear hi)
    refine hK.out _ _ ⟨(blk_cell BK157.out 0).trans rfl, (blk_cell BK157.out 1).trans rfl, (blk_cell BK157.out 2).trans rfl⟩ (fun hHeld => ?_)
    clear hK K
    refine norm_ (a' := ?_) ?_ ?_
    rotate_left
    · show Act.put _ (some 11) _ = _
      simp only [Act.put, List.setIfInBounds_toArray, List.set_cons_zero, List.set_cons_succ, i64_w, i32_w]
      rfl
    refine pure_ (i := 9) (N := some 12) (v := ?_) (a' := ?_) #[true, true, true, true, true, true, true, true, true, true, false, false] rfl rfl (any_of HT_.out (by kernel_rfl)) (fun _ _ _ h => h) (Or.inl ⟨by rfl, ?_⟩) ?_ ?_
    rotate_left
    · intro w'
      go_simp
      with_reducible rfl
    rotate_left
    · simp only [Act.put, List.setIfInBounds_toArray, List.set_cons_zero, List.set_cons_succ, i64_w, i32_w]
      rfl
    refine pure_ (i := 10) (N := some 13) (v := ?_) (a' := ?_) #[true, true, true, true, true, true, true, true, true, true, true, false] rfl rfl (any_of HT_.out (by kernel_rfl)) (fun _ _ _ h => h) (Or.inl ⟨by rfl, ?_⟩) ?_ ?_
    rotate_left
    · intro w'
      go_simp
      with_reducible rfl
    rotate_left
    · simp only [Act.put, List.setIfInBounds_toArray, List.set_cons_zero, List.set_cons_succ, i64_w, i32_w]
      rfl
    refine pure_ (i := 11) (N := some 2) (v := ?_) (a' := ?_) #[true, true, true, true, true, true, true, true, true, true, true, true] rfl rfl (any_of HT_.out (by kernel_rfl)) (fun _ _ _ h => h) (Or.inl ⟨by rfl, ?_⟩) ?_ ?_
    rotate_left
    · intro w'
      go_simp
      with_reducible rfl
    rotate_left
    · simp only [Act.put, List.setIfInBounds_toArray, List.set_cons_zero, List.set_cons_succ, i64_w, i32_w]
      rfl
    refine done_ (done_of HT_.out (by kernel_rfl)) ?_
    try go_wp2
    all_goals (go_ret; exact ⟨by first | rfl | (simp [errW_none, errW_some] <;> rfl) | (simp [*, errW_none, errW_some] <;> rfl) | (simp_all; done), by repeat (first | (with_reducible first | exact HB.out | apply below_alloc | apply pw_below_drewN | apply below_drew1 | refine below_set ?_ GE157.out) | exact HB.out)⟩)
  · replace c3 := Bool.eq_false_iff.mpr c3
    subst c3
    have H1 : (some false) = some r := by rw [if_neg (show ¬ (false = true) by decide)] at H; exact H
    clear H
    have H := H1
    clear H1
    obtain rfl := Option.some.inj H
    go_enter Try.func18, Try.ntmps18
    try go_wp2_with (first | ((with_reducible refine gate_dst (N := 1) rfl ?_); refine box_event ?hg (N := 1) ?hd (cs := #[.int .i64 a0_0, .int .i64 a0_1, .int .i64 a0_2]) (t := 26) ?hr ?_; (case hd => rfl); (case hg => rfl); (case hr => first | (go_simp; done) | (go_simp; rfl)); intro gb157 hg w13 hbox hb; have n0_ := Aside0.mk (below_step (by repeat (first | (with_reducible first | exact HB.out | apply below_alloc | apply pw_below_drewN | apply below_drew1) | exact HB.out)) hb); have n1_ := Aside0.mk (hbox); have n2_ := Aside0.mk ((by rw [hg]; exact (below_size (by repeat (first | (with_reducible first | exact HB.out | apply below_alloc | apply pw_below_drewN | apply below_drew1) | exact HB.out))) : w.heap.size ≤ gb157)); have n3_ := Aside0.mk ((by rw [hg]; exact (below_size (by repeat (first | (with_reducible first | exact HB.out | apply below_alloc | apply pw_below_drewN | apply below_drew1) | exact HB.out))) : w.heap.size ≤ gb157)); clear HB; have HB := n0_; have BK157 := n1_; have GW157 := n2_; have GE157 := n3_; clear n0_ n1_ n2_ n3_; clear hb hbox hg))
    have n0_ := Aside0.mk (blk_drew BK157.out)
    have n1_ := Aside0.mk (below_drew1 HB.out)
    clear BK157
    clear HB
    have BK157 := n0_
    have HB := n1_
    clear n0_ n1_
    refine start_ (n := 12) (S := fun w' => w'.cell? ⟨gb157, 0, none⟩ = some (.int .i64 a0_0) ∧ w'.cell? ⟨gb157, 1, none⟩ = some (.int .i64 a0_1) ∧ w'.cell? ⟨gb157, 2, none⟩ = some (.int .i64 a0_2)) (ds := []) #[false, false, false, false, false, false, false, false, false, false, false, false] (by kernel_rfl) rfl rfl ⟨(blk_cell BK157.out 0).trans rfl, (blk_cell BK157.out 1).trans rfl, (blk_cell BK157.out 2).trans rfl⟩ (fun hHeld => ?_); refine with_tabW spread_Pure.tab1 spread_Pure.bits1 (fun HT_ HW_ => ?_)
    generalize w13.drew = w14 at BK157 HB hHeld ⊢
    refine take_ (i := 0) (N := some 3) (v := ?_) (a' := ?_) #[true, false, false, false, false, false, false, false, false, false, false, false] rfl rfl (take_ofW HT_.out HW_.out (by kernel_rfl)) (fun _ _ _ h => h) (Or.inl ⟨by rfl, ?_⟩) hHeld ?_ ?_
    rotate_left
    · rintro w' ⟨s0, s1, s2⟩
      go_simp
      with_reducible rfl
    rotate_left
    · simp only [Act.put, List.setIfInBounds_toArray, List.set_cons_zero, List.set_cons_succ, i64_w, i32_w]
      rfl
    refine one_ (i := 1) (N := some 4) #[true, true, false, false, false, false, false, false, false, false, false, false] rfl rfl (one_of HT_.out (by kernel_rfl)) (by decide) (fun K hK => ?_)
    refine goes_ Try.func17 (by kernel_rfl) rfl #[.agg #[.int .i64 a0_0, .int .i64 a0_1, .int .i64 a0_2]] (by rfl) rfl rfl (by (try simp only [List.map_toArray, List.map_cons, List.map_nil]); first | done | rfl | (simp only [List.length_drop, List.length_take]; rfl)) ?_
    with_reducible refine (spread_May.calls k a0_0 a0_1 a0_2 false _ A2.out).mono ?_
    rintro e w15 ⟨rfl, hb⟩
    refine ⟨_, rfl, ?_⟩
    have n0_ := Aside0.mk (blk_below (g := gb157) (o := .cells #[.int .i64 a0_0, .int .i64 a0_1, .int .i64 a0_2] 26 (0, 0)) (by (with_reducible repeat (first | refine blk_drewN ?_ _ | refine blk_drew ?_ | refine blk_alloc ?_ _)); exact BK157.out) hb)
    have n1_ := Aside0.mk (below_step (by repeat (first | (with_reducible first | exact HB.out | apply below_alloc | apply pw_below_drewN | apply below_drew1 | refine below_set ?_ GE157.out) | exact HB.out)) hb)
    clear BK157
    clear HB
    have BK157 := n0_
    have HB := n1_
    clear n0_ n1_
    (try clear hb)
    (try clear hb2)
    (try clear hk)
    (try clear hi)
    refine hK.out _ _ ⟨(blk_cell BK157.out 0).trans rfl, (blk_cell BK157.out 1).trans rfl, (blk_cell BK157.out 2).trans rfl⟩ (fun hHeld => ?_)
    clear hK K
    refine norm_ (a' := ?_) ?_ ?_
    rotate_left
    · show Act.put _ (some 4) _ = _
      simp only [Act.put, List.setIfInBounds_toArray, List.set_cons_zero, List.set_cons_succ, i64_w, i32_w]
      rfl
    refine pure_ (i := 2) (N := some 5) (v := ?_) (a' := ?_) #[true, true, true, false, false, false, false, false, false, false, false, false] rfl rfl (any_of HT_.out (by kernel_rfl)) (fun _ _ _ h => h) (Or.inl ⟨by rfl, ?_⟩) ?_ ?_
    rotate_left
    · intro w'
      go_simp
      with_reducible rfl
    rotate_left
    · simp only [Act.put, List.setIfInBounds_toArray, List.set_cons_zero, List.set_cons_succ, i64_w, i32_w]
      rfl
    refine pure_ (i := 3) (N := some 6) (v := undef) (a' := ?_) #[true, true, true, true, false, false, false, false, false, false, false, false] rfl rfl (any_of HT_.out (by kernel_rfl)) (fun _ _ _ h => h) (Or.inr ⟨by rfl, rfl⟩) ?_ ?_
    rotate_left
    · simp only [Act.put, List.setIfInBounds_toArray, List.set_cons_zero, List.set_cons_succ, i64_w, i32_w]
      rfl
    refine pure_ (i := 4) (N := some 7) (v := undef) (a' := ?_) #[true, true, true, true, true, false, false, false, false, false, false, false] rfl rfl (any_of HT_.out (by kernel_rfl)) (fun _ _ _ h => h) (Or.inr ⟨by rfl, rfl⟩) ?_ ?_
    rotate_left
    · simp only [Act.put, List.setIfInBounds_toArray, List.set_cons_zero, List.set_cons_succ, i64_w, i32_w]
      rfl
    refine pure_ (i := 5) (N := some 8) (v := undef) (a' := ?_) #[true, true, true, true, true, true, false, false, false, false, false, false] rfl rfl (any_of HT_.out (by kernel_rfl)) (fun _ _ _ h => h) (Or.inr ⟨by rfl, rfl⟩) ?_ ?_
    rotate_left
    · simp only [Act.put, List.setIfInBounds_toArray, List.set_cons_zero, List.set_cons_succ, i64_w, i32_w]
      rfl
    refine pure_ (i := 6) (N := some 9) (v := undef) (a' := ?_) #[true, true, true, true, true, true, true, false, false, false, false, false] rfl rfl (any_of HT_.out (by kernel_rfl)) (fun _ _ _ h => h) (Or.inr ⟨by rfl, rfl⟩) ?_ ?_
    rotate_left
    · simp only [Act.put, List.setIfInBounds_toArray, List.set_cons_zero, List.set_cons_succ, i64_w, i32_w]
      rfl
    refine pure_ (i := 7) (N := some 10) (v := undef) (a' := ?_) #[true, true, true, true, true, true, true, true, false, false, false, false] rfl rfl (any_of HT_.out (by kernel_rfl)) (fun _ _ _ h => h) (Or.inr ⟨by rfl, rfl⟩) ?_ ?_
    rotate_left
    · simp only [Act.put, List.setIfInBounds_toArray, List.set_cons_zero, List.set_cons_succ, i64_w, i32_w]
      rfl
    refine pure_ (i := 8) (N := some 11) (v := undef) (a' := ?_) #[true, true, true, true, true, true, true, true, true, false, false, false] rfl rfl (any_of HT_.out (by kernel_rfl)) (fun _ _ _ h => h) (Or.inr ⟨by rfl, rfl⟩) ?_ ?_
    rotate_left
    · simp only [Act.put, List.setIfInBounds_toArray, List.set_cons_zero, List.set_cons_succ, i64_w, i32_w]
      rfl
    refine pure_ (i := 9) (N := some 12) (v := undef) (a' := ?_) #[true, true, true, true, true, true, true, true, true, true, false, false] rfl rfl (any_of HT_.out (by kernel_rfl)) (fun _ _ _ h => h) (Or.inr ⟨by rfl, rfl⟩) ?_ ?_
    rotate_left
    · simp only [Act.put, List.setIfInBounds_toArray, List.set_cons_zero, List.set_cons_succ, i64_w, i32_w]
      rfl
    refine pure_ (i := 10) (N := some 13) (v := ?_) (a' := ?_) #[true, true, true, true, true, true, true, true, true, true, true, false] rfl rfl (any_of HT_.out (by kernel_rfl)) (fun _ _ _ h => h) (Or.inl ⟨by rfl, ?_⟩) ?_ ?_
    rotate_left
    · intro w'
      go_simp
      with_reducible rfl
    rotate_left
    · simp only [Act.put, List.setIfInBounds_toArray, List.set_cons_zero, List.set_cons_succ, i64_w, i32_w]
      rfl
    refine pure_ (i := 11) (N := some 2) (v := ?_) (a' := ?_) #[true, true, true, true, true, true, true, true, true, true, true, true] rfl rfl (any_of HT_.out (by kernel_rfl)) (fun _ _ _ h => h) (Or.inl ⟨by rfl, ?_⟩) ?_ ?_
    rotate_left
    · intro w'
      go_simp
      with_reducible rfl
    rotate_left
    · simp only [Act.put, List.setIfInBounds_toArray, List.set_cons_zero, List.set_cons_succ, i64_w, i32_w]
      rfl
    refine done_ (done_of HT_.out (by kernel_rfl)) ?_
    try go_wp2
    all_goals (go_ret; exact ⟨by first | rfl | (simp [errW_none, errW_some] <;> rfl) | (simp [*, errW_none, errW_some] <;> rfl) | (simp_all; done), by repeat (first | (with_reducible first | exact HB.out | apply below_alloc | apply pw_below_drewN | apply below_drew1 | refine below_set ?_ GE157.out) | exact HB.out)⟩)

/-! ### hornbeamlaw15_SpreadMay: function 3 -/
def hornbeamlaw15_SpreadMay.l0 : Nat → List Int → Bool → Bool → Bool → Int → Bool → List Int → Int → Int → Int → Int → Int → Option (Bool)
  | 0, _, _, _, _, _, _, _, _, _, _, _, _ => none
  | k + 1, x0, x4, x5, x6, x7, x8, x22, x23, x24, x170000, x170001, x170002 => if x24 < x23 then (if 0 ≤ x24 then (if x24 < (x22.length : Int) then (if x4 = true then (if 0 < (x0.length : Int) then (if x5 = true then (if x6 = true then (hornbeamlaw15_SpreadMay.l0 k x0 ((rd x22 x24) == (rd x0 0)) true true x7 x8 x22 x23 (wrap64 (x24 + 1)) x170000 x170001 x170002) else (hornbeamlaw15_SpreadMay.l0 k x0 ((rd x22 x24) == (rd x0 0)) true (decide ((rd x22 x24) ≤ x7)) x7 x8 x22 x23 (wrap64 (x24 + 1)) x170000 x170001 x170002)) else (if x6 = true then (hornbeamlaw15_SpreadMay.l0 k x0 ((rd x22 x24) == (rd x0 0)) (decide ((rd x22 x24) ≥ x7)) true x7 x8 x22 x23 (wrap64 (x24 + 1)) x170000 x170001 x170002) else (hornbeamlaw15_SpreadMay.l0 k x0 ((rd x22 x24) == (rd x0 0)) (decide ((rd x22 x24) ≥ x7)) (decide ((rd x22 x24) ≤ x7)) x7 x8 x22 x23 (wrap64 (x24 + 1)) x170000 x170001 x170002))) else (none)) else (if x5 = true then (if x6 = true then (hornbeamlaw15_SpreadMay.l0 k x0 false true true x7 x8 x22 x23 (wrap64 (x24 + 1)) x170000 x170001 x170002) else (hornbeamlaw15_SpreadMay.l0 k x0 false true (decide ((rd x22 x24) ≤ x7)) x7 x8 x22 x23 (wrap64 (x24 + 1)) x170000 x170001 x170002)) else (if x6 = true then (hornbeamlaw15_SpreadMay.l0 k x0 false (decide ((rd x22 x24) ≥ x7)) true x7 x8 x22 x23 (wrap64 (x24 + 1)) x170000 x170001 x170002) else (hornbeamlaw15_SpreadMay.l0 k x0 false (decide ((rd x22 x24) ≥ x7)) (decide ((rd x22 x24) ≤ x7)) x7 x8 x22 x23 (wrap64 (x24 + 1)) x170000 x170001 x170002)))) else (none)) else (none)) else ((hornbeamlaw15_fixed.f k).bind fun t174 => (if t174 = true then ((spread_May.f k x170000 x170001 x170002).bind fun t175 => (if t175 = true then ((spread_Pure.f k x170000 x170001 x170002).bind fun t176 => (if (t176 == x4) = true then (if (x8 == (decide ((x0.length : Int) > 0))) = true then (if x8 = true then (if x5 = true then (some x6) else (some false)) else (some true)) else (some false)) else (some false))) else (some false))) else (some false)))
def hornbeamlaw15_SpreadMay.f (k : Nat) (l0 : List Int) : Option (Bool) := (hornbeamlaw15_limited.f k l0).bind fun t164 => (if t164 = true then ((hornbeamref15_Of.f k l0).bind fun bt166 => ((spread_Mean.f k bt166.1 bt166.2.1 bt166.2.2).bind fun bt170 => (hornbeamlaw15_SpreadMay.l0 k l0 true false false bt170.1 bt170.2 l0 (l0.length : Int) 0 bt166.1 bt166.2.1 bt166.2.2))) else ((hornbeamlaw15_fixed.f k).bind fun t165 => (some t165)))
theorem hornbeamlaw15_SpreadMay.mono_l : ∀ k, (∀ y0 y1 y2 y3 y4 y5 y6 y7 y8 y9 y10 y11, LeO (hornbeamlaw15_SpreadMay.l0 k y0 y1 y2 y3 y4 y5 y6 y7 y8 y9 y10 y11) (hornbeamlaw15_SpreadMay.l0 (k + 1) y0 y1 y2 y3 y4 y5 y6 y7 y8 y9 y10 y11))
  | 0 => fun _ _ _ _ _ _ _ _ _ _ _ _ r h => by simp [hornbeamlaw15_SpreadMay.l0] at h
  | k + 1 => by
    have ih0 := hornbeamlaw15_SpreadMay.mono_l k
    · intro y0 y1 y2 y3 y4 y5 y6 y7 y8 y9 y10 y11
      unfold hornbeamlaw15_SpreadMay.l0
      repeat' first
      | (with_reducible exact ih0 _ _ _ _ _ _ _ _ _ _ _ _)
      | (with_reducible exact hornbeamlaw15_fixed.mono _)
      | (with_reducible exact hornbeamlaw15_limited.mono _ _)
      | (with_reducible exact hornbeamref15_Of.mono _ _)
      | (with_reducible exact spread_May.mono _ _ _ _)
      | (with_reducible exact spread_Mean.mono _ _ _ _)
      | (with_reducible exact spread_Pure.mono _ _ _ _)
      | (with_reducible exact LeO.refl _)
      | (with_reducible exact LeO.none _)
      | (with_reducible refine LeO.ite ?_ ?_)
      | (with_reducible refine LeO.bind ?_ (fun _ => ?_))
      | exact ih0 _ _ _ _ _ _ _ _ _ _ _ _
      | exact hornbeamlaw15_fixed.mono _
      | exact hornbeamlaw15_limited.mono _ _
      | exact hornbeamref15_Of.mono _ _
      | exact spread_May.mono _ _ _ _
      | exact spread_Mean.mono _ _ _ _
      | exact spread_Pure.mono _ _ _ _
      | exact LeO.none _
      | refine LeO.ite ?_ ?_
      | refine LeO.bind ?_ (fun _ => ?_)
theorem hornbeamlaw15_SpreadMay.mono : ∀ a0 k, LeO (hornbeamlaw15_SpreadMay.f k a0) (hornbeamlaw15_SpreadMay.f (k + 1) a0) := by
  intro a0 k
  have ih0 := hornbeamlaw15_SpreadMay.mono_l k
  unfold hornbeamlaw15_SpreadMay.f
  repeat' first
      | (with_reducible exact ih0 _ _ _ _ _ _ _ _ _ _ _ _)
      | (with_reducible exact hornbeamlaw15_fixed.mono _)
      | (with_reducible exact hornbeamlaw15_limited.mono _ _)
      | (with_reducible exact hornbeamref15_Of.mono _ _)
      | (with_reducible exact spread_May.mono _ _ _ _)
      | (with_reducible exact spread_Mean.mono _ _ _ _)
      | (with_reducible exact spread_Pure.mono _ _ _ _)
      | (with_reducible exact LeO.refl _)
      | (with_reducible exact LeO.none _)
      | (with_reducible refine LeO.ite ?_ ?_)
      | (with_reducible refine LeO.bind ?_ (fun _ => ?_))
      | exact ih0 _ _ _ _ _ _ _ _ _ _ _ _
      | exact hornbeamlaw15_fixed.mono _
      | exact hornbeamlaw15_limited.mono _ _
      | exact hornbeamref15_Of.mono _ _
      | exact spread_May.mono _ _ _ _
      | exact spread_Mean.mono _ _ _ _
      | exact spread_Pure.mono _ _ _ _
      | exact LeO.none _
      | refine LeO.ite ?_ ?_
      | refine LeO.bind ?_ (fun _ => ?_)
set_option maxHeartbeats 8000000 in
set_option maxRecDepth 100000 in
theorem hornbeamlaw15_SpreadMay.calls (k : Nat) (A0 : Option Addr) (c0 : Nat) (l0 : List Int) (r : Bool) (w : World) (hr0 : Kd.C (Kd.int .i64) w A0 l0.length l0) (hc0 : l0.length ≤ c0) (h : hornbeamlaw15_SpreadMay.f k l0 = some r) :
    Calls Try.prog 3 #[.slice A0 l0.length c0] w fun e w' => e = .returned (.bool r) ∧ Below w.heap.size w w' := by
  have hu26 := Try.underlying26
  have HR0 := Aside0.mk hr0
  have HC0 := Aside0.mk hc0
  clear hr0 hc0
  have HB := Aside0.mk (Below.refl w.heap.size w)
  have H : ((hornbeamlaw15_limited.f k l0).bind fun t164 => (if t164 = true then ((hornbeamref15_Of.f k l0).bind fun bt166 => ((spread_Mean.f k bt166.1 bt166.2.1 bt166.2.2).bind fun bt170 => (hornbeamlaw15_SpreadMay.l0 k l0 true false false bt170.1 bt170.2 l0 (l0.length : Int) 0 bt166.1 bt166.2.1 bt166.2.2))) else ((hornbeamlaw15_fixed.f k).bind fun t165 => (some t165)))) = some r := h
  clear h
  replace H := Option.bind_eq_some_iff.mp H
  obtain ⟨t164, A20, H⟩ := H
  replace H : (if t164 = true then ((hornbeamref15_Of.f k l0).bind fun bt166 => ((spread_Mean.f k bt166.1 bt166.2.1 bt166.2.2).bind fun bt170 => (hornbeamlaw15_SpreadMay.l0 k l0 true false false bt170.1 bt170.2 l0 (l0.length : Int) 0 bt166.1 bt166.2.1 bt166.2.2))) else ((hornbeamlaw15_fixed.f k).bind fun t165 => (some t165))) = some r := H
  have A2 := Aside0.mk A20
  clear A20
  by_cases c3 : t164 = true
  · subst c3
    have H1 : ((hornbeamref15_Of.f k l0).bind fun bt166 => ((spread_Mean.f k bt166.1 bt166.2.1 bt166.2.2).bind fun bt170 => (hornbeamlaw15_SpreadMay.l0 k l0 true false false bt170.1 bt170.2 l0 (l0.length : Int) 0 bt166.1 bt166.2.1 bt166.2.2))) = some r := by rw [if_pos rfl] at H; exact H
    clear H
    have H := H1
    clear H1
    replace H := Option.bind_eq_some_iff.mp H
    obtain ⟨⟨t166, t167, t168⟩, A40, H⟩ := H
    replace H : ((spread_Mean.f k t166 t167 t168).bind fun bt170 => (hornbeamlaw15_SpreadMay.l0 k l0 true false false bt170.1 bt170.2 l0 (l0.length : Int) 0 t166 t167 t168)) = some r := H
    have A4 := Aside0.mk A40
    clear A40
    replace H := Option.bind_eq_some_iff.mp H
    obtain ⟨⟨t170, t171⟩, A50, H⟩ := H
    replace H : (hornbeamlaw15_SpreadMay.l0 k l0 true false false t170 t171 l0 (l0.length : Int) 0 t166 t167 t168) = some r := H
    have A5 := Aside0.mk A50
    clear A50
    have H' := Aside0.mk H
    clear H
    go_enter Try.func3, Try.ntmps3
    go_wp2_with (first | ((with_reducible refine gate_callee (f := 13) rfl ?_); refine goesL_ (some 12) rfl rfl Try.func13 (by kernel_rfl) rfl #[.slice A0 l0.length c0] rfl (by (try simp only [List.map_toArray, List.map_cons, List.map_nil]); first | done | rfl | (simp only [List.length_drop, List.length_take]; rfl)) ?_; (with_reducible refine (hornbeamlaw15_limited.calls k _ _ l0 true _ ?side1 ?side2 A2.out).mono ?_); (case side1 => repeat (first | exact HR0.out | (with_reducible refine Kd.C_alloc ?_ _) | (with_reducible refine Kd.C_drewN ?_ _) | (with_reducible refine Kd.C_drew ?_))); (case side2 => exact HC0.out); rintro e w' ⟨rfl, ⟨nd, rfl⟩⟩; refine ⟨_, rfl, ?_⟩) | ((with_reducible refine gate_callee (f := 15) rfl ?_); refine goesL_ (some 16) rfl rfl Try.func15 (by kernel_rfl) rfl #[.slice A0 l0.length c0] rfl (by (try simp only [List.map_toArray, List.map_cons, List.map_nil]); first | done | rfl | (simp only [List.length_drop, List.length_take]; rfl)) ?_; (with_reducible refine (hornbeamref15_Of.calls k _ _ l0 t166 t167 t168 _ ?side1 ?side2 A4.out).mono ?_); (case side1 => repeat (first | exact HR0.out | (with_reducible refine Kd.C_alloc ?_ _) | (with_reducible refine Kd.C_drewN ?_ _) | (with_reducible refine Kd.C_drew ?_))); (case side2 => exact HC0.out); rintro e w6 ⟨rfl, hb⟩; refine ⟨_, rfl, ?_⟩; have n0_ := Aside0.mk (below_step (by repeat (first | (with_reducible first | exact HB.out | apply below_alloc | apply pw_below_drewN | apply below_drew1) | exact HB.out)) hb); clear HB; have HB := n0_; clear n0_; (try clear hb); (try clear hb2); (try clear hk); (try clear hi)) | ((with_reducible refine gate_dst (N := 3) rfl ?_); (try (refine gate_guard (by rfl) ?_; dsimp only)); refine box_event ?hg (N := 3) ?hd (cs := #[.int .i64 0, .int .i64 0, .int .i64 0]) (t := 26) ?hr ?_; (case hd => rfl); (case hg => rfl); (case hr => first | (go_simp; done) | (go_simp; rfl)); intro gb169 hg w7 hbox hb; have n0_ := Aside0.mk (below_step (by repeat (first | (with_reducible first | exact HB.out | apply below_alloc | apply pw_below_drewN | apply below_drew1) | exact HB.out)) hb); have n1_ := Aside0.mk (hbox); have n2_ := Aside0.mk ((by rw [hg]; exact (below_size (by repeat (first | (with_reducible first | exact HB.out | apply below_alloc | apply pw_below_drewN | apply below_drew1) | exact HB.out))) : w.heap.size ≤ gb169)); have n3_ := Aside0.mk ((by rw [hg]; exact (below_size (by repeat (first | (with_reducible first | exact HB.out | apply below_alloc | apply pw_below_drewN | apply below_drew1) | exact HB.out))) : w.heap.size ≤ gb169)); clear HB; have HB := n0_; have BK169 := n1_; have GW169 := n2_; have GE169 := n3_; clear n0_ n1_ n2_ n3_; clear hb hbox hg; have hcz8_0 : w7.cell? ⟨gb169, 0, none⟩ = some (.int .i64 0) := (blk_cell BK169.out 0).trans rfl; have hcz8_1 : w7.cell? ⟨gb169, 1, none⟩ = some (.int .i64 0) := (blk_cell BK169.out 1).trans rfl; have hcz8_2 : w7.cell? ⟨gb169, 2, none⟩ = some (.int .i64 0) := (blk_cell BK169.out 2).trans rfl; have hfz8_0 := blk_frozen BK169.out 0; have hfz8_1 := blk_frozen BK169.out 1; have hfz8_2 := blk_frozen BK169.out 2) | ((with_reducible refine gate_callee (f := 16) rfl ?_); refine goesL_ (some 19) rfl rfl Try.func16 (by kernel_rfl) rfl #[.agg #[.int .i64 t166, .int .i64 t167, .int .i64 t168]] rfl (by (try simp only [List.map_toArray, List.map_cons, List.map_nil]); first | done | rfl | (simp only [List.length_drop, List.length_take]; rfl)) ?_; (with_reducible refine (spread_Mean.calls k t166 t167 t168 t170 t171 _ A5.out).mono ?_); rintro e w9 ⟨rfl, hb⟩; refine ⟨_, rfl, ?_⟩; have n0_ := Aside0.mk (blk_below (g := gb169) (o := .cells #[.int .i64 t166, .int .i64 t167, .int .i64 t168] 26 (0, 0)) (by (with_reducible repeat (first | refine blk_drewN ?_ _ | refine blk_drew ?_ | refine blk_alloc ?_ _)); refine blk_put (cs := #[.int .i64 t166, .int .i64 t167, .int .i64 0]) ?_ 2 _ rfl; (with_reducible repeat (first | refine blk_drewN ?_ _ | refine blk_drew ?_ | refine blk_alloc ?_ _)); refine blk_put (cs := #[.int .i64 t166, .int .i64 0, .int .i64 0]) ?_ 1 _ rfl; (with_reducible repeat (first | refine blk_drewN ?_ _ | refine blk_drew ?_ | refine blk_alloc ?_ _)); refine blk_put (cs := #[.int .i64 0, .int .i64 0, .int .i64 0]) ?_ 0 _ rfl; (with_reducible repeat (first | refine blk_drewN ?_ _ | refine blk_drew ?_ | refine blk_alloc ?_ _)); exact BK169.out) hb); have n1_ := Aside0.mk (below_step (by repeat (first | (with_reducible first | exact HB.out | apply below_alloc | apply pw_below_drewN | apply below_drew1 | refine below_set ?_ GE169.out) | exact HB.out)) hb); clear BK169; clear HB; have BK169 := n0_; have HB := n1_; clear n0_ n1_; (try clear hb); (try clear hb2); (try clear hk); (try clear hi)))
    go_loopg [4, 5, 6, 24] k (fun kq v4 v5 v6 v24 w' => ∃ (x4_1 : Bool) (x5_1 : Bool) (x6_1 : Bool) (x24_1 : Int), v4 = .bool x4_1 ∧ v5 = .bool x5_1 ∧ v6 = .bool x6_1 ∧ v24 = .int .i64 x24_1 ∧ Aside0 (hornbeamlaw15_SpreadMay.l0 kq l0 x4_1 x5_1 x6_1 t170 t171 l0 (l0.length : Int) x24_1 t166 t167 t168 = some r) ∧ Aside0 (kq ≤ k) ∧ Aside0 (w'.heap[gb169]? = some (.cells #[.int .i64 t166, .int .i64 t167, .int .i64 t168] 26 (0, 0))) ∧ Aside0 (Below w.heap.size w w'))
    case atStart => exact ⟨(true), (false), (false), (0), (by first | rfl | (simp; done) | (simp [*]; done)), (by first | rfl | (simp; done) | (simp [*]; done)), (by first | rfl | (simp; done) | (simp [*]; done)), (by first | rfl | (simp; done) | (simp [*]; done)), H', ⟨Nat.le_refl _⟩, ⟨by (with_reducible repeat (first | refine blk_drewN ?_ _ | refine blk_drew ?_ | refine blk_alloc ?_ _)); exact BK169.out⟩, ⟨by repeat (first | (with_reducible first | exact HB.out | apply below_alloc | apply pw_below_drewN | apply below_drew1 | refine below_set ?_ GE169.out) | exact HB.out)⟩⟩
    case round =>
      clear H'
      try clear c1
      try clear p2
      try clear c3
      try clear hcz8_0
      try clear hcz8_1
      try clear hcz8_2
      try clear hfz8_0
      try clear hfz8_1
      try clear hfz8_2
      obtain ⟨x4_1, x5_1, x6_1, x24_1, rfl, rfl, rfl, rfl, HA, HK1, BK169, HB⟩ := hrel
      cases gk with
      | zero => exact absurd HA.out (by simp [hornbeamlaw15_SpreadMay.l0])
      | succ k1 =>
        have H := HA.out
        clear HA
        simp only [hornbeamlaw15_SpreadMay.l0] at H
        by_cases c10 : x24_1 < (l0.length : Int)
        · rw [if_pos c10] at H
          have c10b0 : decide (x24_1 < (l0.length : Int)) = true := decide_eq_true c10
          clear c10
          by_cases c11 : 0 ≤ x24_1
          · rw [if_pos c11] at H
            have c11b0 : decide (0 ≤ x24_1) = true := decide_eq_true c11
            clear c11
            by_cases c12 : x24_1 < (l0.length : Int)
            · rw [if_pos c12] at H
              have c12b0 : decide (x24_1 < (l0.length : Int)) = true := decide_eq_true c12
              clear c12
              by_cases c13 : x4_1 = true
              · subst c13
                have H1 : (if 0 < (l0.length : Int) then (if x5_1 = true then (if x6_1 = true then (hornbeamlaw15_SpreadMay.l0 k1 l0 ((rd l0 x24_1) == (rd l0 0)) true true t170 t171 l0 (l0.length : Int) (wrap64 (x24_1 + 1)) t166 t167 t168) else (hornbeamlaw15_SpreadMay.l0 k1 l0 ((rd l0 x24_1) == (rd l0 0)) true (decide ((rd l0 x24_1) ≤ t170)) t170 t171 l0 (l0.length : Int) (wrap64 (x24_1 + 1)) t166 t167 t168)) else (if x6_1 = true then (hornbeamlaw15_SpreadMay.l0 k1 l0 ((rd l0 x24_1) == (rd l0 0)) (decide ((rd l0 x24_1) ≥ t170)) true t170 t171 l0 (l0.length : Int) (wrap64 (x24_1 + 1)) t166 t167 t168) else (hornbeamlaw15_SpreadMay.l0 k1 l0 ((rd l0 x24_1) == (rd l0 0)) (decide ((rd l0 x24_1) ≥ t170)) (decide ((rd l0 x24_1) ≤ t170)) t170 t171 l0 (l0.length : Int) (wrap64 (x24_1 + 1)) t166 t167 t168))) else (none)) = some r := by rw [if_pos rfl] at H; exact H
                clear H
                have H := H1
                clear H1
                by_cases c14 : 0 < (l0.length : Int)
                · rw [if_pos c14] at H
                  have c14b0 : decide (0 < (l0.length : Int)) = true := decide_eq_true c14
                  have c14b1 : decide (0 < l0.length) = true := decide_eq_true (by omega)
                  clear c14
                  by_cases c15 : x5_1 = true
                  · subst c15
                    have H1 : (if x6_1 = true then (hornbeamlaw15_SpreadMay.l0 k1 l0 ((rd l0 x24_1) == (rd l0 0)) true true t170 t171 l0 (l0.length : Int) (wrap64 (x24_1 + 1)) t166 t167 t168) else (hornbeamlaw15_SpreadMay.l0 k1 l0 ((rd l0 x24_1) == (rd l0 0)) true (decide ((rd l0 x24_1) ≤ t170)) t170 t171 l0 (l0.length : Int) (wrap64 (x24_1 + 1)) t166 t167 t168)) = some r := by rw [if_pos rfl] at H; exact H
                    clear H
                    have H := H1
                    clear H1
                    by_cases c16 : x6_1 = true
                    · subst c16
                      have H1 : (hornbeamlaw15_SpreadMay.l0 k1 l0 ((rd l0 x24_1) == (rd l0 0)) true true t170 t171 l0 (l0.length : Int) (wrap64 (x24_1 + 1)) t166 t167 t168) = some r := by rw [if_pos rfl] at H; exact H
                      clear H
                      have H := H1
                      clear H1
                      have H' := Aside0.mk H
                      clear H
                      have p172 : 0 ≤ (x24_1 : Int) := of_decide_eq_true (by first | (with_reducible assumption) | assumption)
                      have q172 : x24_1 < (l0.length : Int) := of_decide_eq_true (by first | (with_reducible assumption) | assumption)
                      obtain ⟨ad172, e172, hx172_0⟩ := Kd.at_int HR0.out x24_1 p172 q172
                      cases e172
                      replace hx172_0 := (HB.out.cell (World.block_lt_of_cell? w _ hx172_0)).trans hx172_0
                      replace p172 := eq_true p172
                      replace q172 := eq_true q172
                      have p173 : 0 ≤ (0 : Int) := (by omega)
                      have q173 : 0 < (l0.length : Int) := of_decide_eq_true (by first | (with_reducible assumption) | assumption)
                      obtain ⟨ad173, e173, hx173_0⟩ := Kd.at_int HR0.out 0 p173 q173
                      obtain rfl : ad172 = ad173 := (by injection e173)
                      have qi173 : (0 < l0.length) = True := eq_true (by omega)
                      (try rw [show ((0 : Int)).toNat = 0 from rfl] at hx173_0)
                      (try rw [Addr.add_zero'] at hx173_0)
                      replace hx173_0 := (HB.out.cell (World.block_lt_of_cell? w _ hx173_0)).trans hx173_0
                      replace p173 := eq_true p173
                      replace q173 := eq_true q173
                      go_wp2
                      go_roundg k1
                      case measure => have := HK1.out; omega
                      case rel => exact ⟨(((rd l0 x24_1) == (rd l0 0))), (true), (true), (wrap64 (x24_1 + 1)), (by first | rfl | (simp; done) | (simp [*]; done)), (by first | rfl | (simp; done) | (simp [*]; done)), (by first | rfl | (simp; done) | (simp [*]; done)), (by first | rfl | (simp; done) | (simp [*]; done)), H', ⟨by have := HK1.out; omega⟩, ⟨by (with_reducible repeat (first | refine blk_drewN ?_ _ | refine blk_drew ?_ | refine blk_alloc ?_ _)); exact BK169.out⟩, ⟨by repeat (first | (with_reducible first | exact HB.out | apply below_alloc | apply pw_below_drewN | apply below_drew1 | refine below_set ?_ GE169.out) | exact HB.out)⟩⟩
                    · replace c16 := Bool.eq_false_iff.mpr c16
                      subst c16
                      have H1 : (hornbeamlaw15_SpreadMay.l0 k1 l0 ((rd l0 x24_1) == (rd l0 0)) true (decide ((rd l0 x24_1) ≤ t170)) t170 t171 l0 (l0.length : Int) (wrap64 (x24_1 + 1)) t166 t167 t168) = some r := by rw [if_neg (show ¬ (false = true) by decide)] at H; exact H
                      clear H
                      have H := H1
                      clear H1
                      have H' := Aside0.mk H
                      clear H
                      have p172 : 0 ≤ (x24_1 : Int) := of_decide_eq_true (by first | (with_reducible assumption) | assumption)
                      have q172 : x24_1 < (l0.length : Int) := of_decide_eq_true (by first | (with_reducible assumption) | assumption)
                      obtain ⟨ad172, e172, hx172_0⟩ := Kd.at_int HR0.out x24_1 p172 q172
                      cases e172
                      replace hx172_0 := (HB.out.cell (World.block_lt_of_cell? w _ hx172_0)).trans hx172_0
                      replace p172 := eq_true p172
                      replace q172 := eq_true q172
                      have p173 : 0 ≤ (0 : Int) := (by omega)
                      have q173 : 0 < (l0.length : Int) := of_decide_eq_true (by first | (with_reducible assumption) | assumption)
                      obtain ⟨ad173, e173, hx173_0⟩ := Kd.at_int HR0.out 0 p173 q173
                      obtain rfl : ad172 = ad173 := (by injection e173)
                      have qi173 : (0 < l0.length) = True := eq_true (by omega)
                      (try rw [show ((0 : Int)).toNat = 0 from rfl] at hx173_0)
                      (try rw [Addr.add_zero'] at hx173_0)
                      replace hx173_0 := (HB.out.cell (World.block_lt_of_cell? w _ hx173_0)).trans hx173_0
                      replace p173 := eq_true p173
                      replace q173 := eq_true q173
                      go_wp2
                      go_roundg k1
                      case measure => have := HK1.out; omega
                      case rel => exact ⟨(((rd l0 x24_1) == (rd l0 0))), (true), (decide ((rd l0 x24_1) ≤ t170)), (wrap64 (x24_1 + 1)), (by first | rfl | (simp; done) | (simp [*]; done)), (by first | rfl | (simp; done) | (simp [*]; done)), (by first | rfl | (simp; done) | (simp [*]; done)), (by first | rfl | (simp; done) | (simp [*]; done)), H', ⟨by have := HK1.out; omega⟩, ⟨by (with_reducible repeat (first | refine blk_drewN ?_ _ | refine blk_drew ?_ | refine blk_alloc ?_ _)); exact BK169.out⟩, ⟨by repeat (first | (with_reducible first | exact HB.out | apply below_alloc | apply pw_below_drewN | apply below_drew1 | refine below_set ?_ GE169.out) | exact HB.out)⟩⟩
                  · replace c15 := Bool.eq_false_iff.mpr c15
                    subst c15
                    have H1 : (if x6_1 = true then (hornbeamlaw15_SpreadMay.l0 k1 l0 ((rd l0 x24_1) == (rd l0 0)) (decide ((rd l0 x24_1) ≥ t170)) true t170 t171 l0 (l0.length : Int) (wrap64 (x24_1 + 1)) t166 t167 t168) else (hornbeamlaw15_SpreadMay.l0 k1 l0 ((rd l0 x24_1) == (rd l0 0)) (decide ((rd l0 x24_1) ≥ t170)) (decide ((rd l0 x24_1) ≤ t170)) t170 t171 l0 (l0.length : Int) (wrap64 (x24_1 + 1)) t166 t167 t168)) = some r := by rw [if_neg (show ¬ (false = true) by decide)] at H; exact H
                    clear H
                    have H := H1
                    clear H1
                    by_cases c17 : x6_1 = true
                    · subst c17
                      have H1 : (hornbeamlaw15_SpreadMay.l0 k1 l0 ((rd l0 x24_1) == (rd l0 0)) (decide ((rd l0 x24_1) ≥ t170)) true t170 t171 l0 (l0.length : Int) (wrap64 (x24_1 + 1)) t166 t167 t168) = some r := by rw [if_pos rfl] at H; exact H
                      clear H
                      have H := H1
                      clear H1
                      have H' := Aside0.mk H
                      clear H
                      have p172 : 0 ≤ (x24_1 : Int) := of_decide_eq_true (by first | (with_reducible assumption) | assumption)
                      have q172 : x24_1 < (l0.length : Int) := of_decide_eq_true (by first | (with_reducible assumption) | assumption)
                      obtain ⟨ad172, e172, hx172_0⟩ := Kd.at_int HR0.out x24_1 p172 q172
                      cases e172
                      replace hx172_0 := (HB.out.cell (World.block_lt_of_cell? w _ hx172_0)).trans hx172_0
                      replace p172 := eq_true p172
                      replace q172 := eq_true q172
                      have p173 : 0 ≤ (0 : Int) := (by omega)
                      have q173 : 0 < (l0.length : Int) := of_decide_eq_true (by first | (with_reducible assumption) | assumption)
                      obtain ⟨ad173, e173, hx173_0⟩ := Kd.at_int HR0.out 0 p173 q173
                      obtain rfl : ad172 = ad173 := (by injection e173)
                      have qi173 : (0 < l0.length) = True := eq_true (by omega)
                      (try rw [show ((0 : Int)).toNat = 0 from rfl] at hx173_0)
                      (try rw [Addr.add_zero'] at hx173_0)
                      replace hx173_0 := (HB.out.cell (World.block_lt_of_cell? w _ hx173_0)).trans hx173_0
                      replace p173 := eq_true p173
                      replace q173 := eq_true q173
                      go_wp2
                      go_roundg k1
                      case measure => have := HK1.out; omega
                      case rel => exact ⟨(((rd l0 x24_1) == (rd l0 0))), (decide ((rd l0 x24_1) ≥ t170)), (true), (wrap64 (x24_1 + 1)), (by first | rfl | (simp; done) | (simp [*]; done)), (by first | rfl | (simp; done) | (simp [*]; done)), (by first | rfl | (simp; done) | (simp [*]; done)), (by first | rfl | (simp; done) | (simp [*]; done)), H', ⟨by have := HK1.out; omega⟩, ⟨by (with_reducible repeat (first | refine blk_drewN ?_ _ | refine blk_drew ?_ | refine blk_alloc ?_ _)); exact BK169.out⟩, ⟨by repeat (first | (with_reducible first | exact HB.out | apply below_alloc | apply pw_below_drewN | apply below_drew1 | refine below_set ?_ GE169.out) | exact HB.out)⟩⟩
                    · replace c17 := Bool.eq_false_iff.mpr c17
                      subst c17
                      have H1 : (hornbeamlaw15_SpreadMay.l0 k1 l0 ((rd l0 x24_1) == (rd l0 0)) (decide ((rd l0 x24_1) ≥ t170)) (decide ((rd l0 x24_1) ≤ t170)) t170 t171 l0 (l0.length : Int) (wrap64 (x24_1 + 1)) t166 t167 t168) = some r := by rw [if_neg (show ¬ (false = true) by decide)] at H; exact H
                      clear H
                      have H := H1
                      clear H1
                      have H' := Aside0.mk H
                      clear H
                      have p172 : 0 ≤ (x24_1 : Int) := of_decide_eq_true (by first | (with_reducible assumption) | assumption)
                      have q172 : x24_1 < (l0.length : Int) := of_decide_eq_true (by first | (with_reducible assumption) | assumption)
                      obtain ⟨ad172, e172, hx172_0⟩ := Kd.at_int HR0.out x24_1 p172 q172
                      cases e172
                      replace hx172_0 := (HB.out.cell (World.block_lt_of_cell? w _ hx172_0)).trans hx172_0
                      replace p172 := eq_true p172
                      replace q172 := eq_true q172
                      have p173 : 0 ≤ (0 : Int) := (by omega)
                      have q173 : 0 < (l0.length : Int) := of_decide_eq_true (by first | (with_reducible assumption) | assumption)
                      obtain ⟨ad173, e173, hx173_0⟩ := Kd.at_int HR0.out 0 p173 q173
                      obtain rfl : ad172 = ad173 := (by injection e173)
                      have qi173 : (0 < l0.length) = True := eq_true (by omega)
                      (try rw [show ((0 : Int)).toNat = 0 from rfl] at hx173_0)
                      (try rw [Addr.add_zero'] at hx173_0)
                      replace hx173_0 := (HB.out.cell (World.block_lt_of_cell? w _ hx173_0)).trans hx173_0
                      replace p173 := eq_true p173
                      replace q173 := eq_true q173
                      go_wp2
                      go_roundg k1
                      case measure => have := HK1.out; omega
                      case rel => exact ⟨(((rd l0 x24_1) == (rd l0 0))), (decide ((rd l0 x24_1) ≥ t170)), (decide ((rd l0 x24_1) ≤ t170)), (wrap64 (x24_1 + 1)), (by first | rfl | (simp; done) | (simp [*]; done)), (by first | rfl | (simp; done) | (simp [*]; done)), (by first | rfl | (simp; done) | (simp [*]; done)), (by first | rfl | (simp; done) | (simp [*]; done)), H', ⟨by have := HK1.out; omega⟩, ⟨by (with_reducible repeat (first | refine blk_drewN ?_ _ | refine blk_drew ?_ | refine blk_alloc ?_ _)); exact BK169.out⟩, ⟨by repeat (first | (with_reducible first | exact HB.out | apply below_alloc | apply pw_below_drewN | apply below_drew1 | refine below_set ?_ GE169.out) | exact HB.out)⟩⟩
                · rw [if_neg c14] at H
                  exact absurd H (by simp)
              · replace c13 := Bool.eq_false_iff.mpr c13
                subst c13
                have H1 : (if x5_1 = true then (if x6_1 = true then (hornbeamlaw15_SpreadMay.l0 k1 l0 false true true t170 t171 l0 (l0.length : Int) (wrap64 (x24_1 + 1)) t166 t167 t168) else (hornbeamlaw15_SpreadMay.l0 k1 l0 false true (decide ((rd l0 x24_1) ≤ t170)) t170 t171 l0 (l0.length : Int) (wrap64 (x24_1 + 1)) t166 t167 t168)) else (if x6_1 = true then (hornbeamlaw15_SpreadMay.l0 k1 l0 false (decide ((rd l0 x24_1) ≥ t170)) true t170 t171 l0 (l0.length : Int) (wrap64 (x24_1 + 1)) t166 t167 t168) else (hornbeamlaw15_SpreadMay.l0 k1 l0 false (decide ((rd l0 x24_1) ≥ t170)) (decide ((rd l0 x24_1) ≤ t170)) t170 t171 l0 (l0.length : Int) (wrap64 (x24_1 + 1)) t166 t167 t168))) = some r := by rw [if_neg (show ¬ (false = true) by decide)] at H; exact H
                clear H
                have H := H1
                clear H1
                by_cases c18 : x5_1 = true
                · subst c18
                  have H1 : (if x6_1 = true then (hornbeamlaw15_SpreadMay.l0 k1 l0 false true true t170 t171 l0 (l0.length : Int) (wrap64 (x24_1 + 1)) t166 t167 t168) else (hornbeamlaw15_SpreadMay.l0 k1 l0 false true (decide ((rd l0 x24_1) ≤ t170)) t170 t171 l0 (l0.length : Int) (wrap64 (x24_1 + 1)) t166 t167 t168)) = some r := by rw [if_pos rfl] at H; exact H
                  clear H
                  have H := H1
                  clear H1
                  by_cases c19 : x6_1 = true
                  · subst c19
                    have H1 : (hornbeamlaw15_SpreadMay.l0 k1 l0 false true true t170 t171 l0 (l0.length : Int) (wrap64 (x24_1 + 1)) t166 t167 t168) = some r := by rw [if_pos rfl] at H; exact H
                    clear H
                    have H := H1
                    clear H1
                    have H' := Aside0.mk H
                    clear H
                    have p172 : 0 ≤ (x24_1 : Int) := of_decide_eq_true (by first | (with_reducible assumption) | assumption)
                    have q172 : x24_1 < (l0.length : Int) := of_decide_eq_true (by first | (with_reducible assumption) | assumption)
                    obtain ⟨ad172, e172, hx172_0⟩ := Kd.at_int HR0.out x24_1 p172 q172
                    cases e172
                    replace hx172_0 := (HB.out.cell (World.block_lt_of_cell? w _ hx172_0)).trans hx172_0
                    replace p172 := eq_true p172
                    replace q172 := eq_true q172
                    go_wp2
                    go_roundg k1
                    case measure => have := HK1.out; omega
                    case rel => exact ⟨(false), (true), (true), (wrap64 (x24_1 + 1)), (by first | rfl | (simp; done) | (simp [*]; done)), (by first | rfl | (simp; done) | (simp [*]; done)), (by first | rfl | (simp; done) | (simp [*]; done)), (by first | rfl | (simp; done) | (simp [*]; done)), H', ⟨by have := HK1.out; omega⟩, ⟨by (with_reducible repeat (first | refine blk_drewN ?_ _ | refine blk_drew ?_ | refine blk_alloc ?_ _)); exact BK169.out⟩, ⟨by repeat (first | (with_reducible first | exact HB.out | apply below_alloc | apply pw_below_drewN | apply below_drew1 | refine below_set ?_ GE169.out) | exact HB.out)⟩⟩
                  · replace c19 := Bool.eq_false_iff.mpr c19
                    subst c19
                    have H1 : (hornbeamlaw15_SpreadMay.l0 k1 l0 false true (decide ((rd l0 x24_1) ≤ t170)) t170 t171 l0 (l0.length : Int) (wrap64 (x24_1 + 1)) t166 t167 t168) = some r := by rw [if_neg (show ¬ (false = true) by decide)] at H; exact H
                    clear H
                    have H := H1
                    clear H1
                    have H' := Aside0.mk H
                    clear H
                    have p172 : 0 ≤ (x24_1 : Int) := of_decide_eq_true (by first | (with_reducible assumption) | assumption)
                    have q172 : x24_1 < (l0.length : Int) := of_decide_eq_true (by first | (with_reducible assumption) | assumption)
                    obtain ⟨ad172, e172, hx172_0⟩ := Kd.at_int HR0.out x24_1 p172 q172
                    cases e172
                    replace hx172_0 := (HB.out.cell (World.block_lt_of_cell? w _ hx172_0)).trans hx172_0
                    replace p172 := eq_true p172
                    replace q172 := eq_true q172
                    go_wp2
                    go_roundg k1
                    case measure => have := HK1.out; omega
                    case rel => exact ⟨(false), (true), (decide ((rd l0 x24_1) ≤ t170)), (wrap64 (x24_1 + 1)), (by first | rfl | (simp; done) | (simp [*]; done)), (by first | rfl | (simp; done) | (simp [*]; done)), (by first | rfl | (simp; done) | (simp [*]; done)), (by first | rfl | (simp; done) | (simp [*]; done)), H', ⟨by have := HK1.out; omega⟩, ⟨by (with_reducible repeat (first | refine blk_drewN ?_ _ | refine blk_drew ?_ | refine blk_alloc ?_ _)); exact BK169.out⟩, ⟨by repeat (first | (with_reducible first | exact HB.out | apply below_alloc | apply pw_below_drewN | apply below_drew1 | refine below_set ?_ GE169.out) | exact HB.out)⟩⟩
                · replace c18 := Bool.eq_false_iff.mpr c18
                  subst c18
                  have H1 : (if x6_1 = true then (hornbeamlaw15_SpreadMay.l0 k1 l0 false (decide ((rd l0 x24_1) ≥ t170)) true t170 t171 l0 (l0.length : Int) (wrap64 (x24_1 + 1)) t166 t167 t168) else (hornbeamlaw15_SpreadMay.l0 k1 l0 false (decide ((rd l0 x24_1) ≥ t170)) (decide ((rd l0 x24_1) ≤ t170)) t170 t171 l0 (l0.length : Int) (wrap64 (x24_1 + 1)) t166 t167 t168)) = some r := by rw [if_neg (show ¬ (false = true) by decide)] at H; exact H
                  clear H
                  have H := H1
                  clear H1
                  by_cases c20 : x6_1 = true
                  · subst c20
                    have H1 : (hornbeamlaw15_SpreadMay.l0 k1 l0 false (decide ((rd l0 x24_1) ≥ t170)) true t170 t171 l0 (l0.length : Int) (wrap64 (x24_1 + 1)) t166 t167 t168) = some r := by rw [if_pos rfl] at H; exact H
                    clear H
                    have H := H1
                    clear H1
                    have H' := Aside0.mk H
                    clear H
                    have p172 : 0 ≤ (x24_1 : Int) := of_decide_eq_true (by first | (with_reducible assumption) | assumption)
                    have q172 : x24_1 < (l0.length : Int) := of_decide_eq_true (by first | (with_reducible assumption) | assumption)
                    obtain ⟨ad172, e172, hx172_0⟩ := Kd.at_int HR0.out x24_1 p172 q172
                    cases e172
                    replace hx172_0 := (HB.out.cell (World.block_lt_of_cell? w _ hx172_0)).trans hx172_0
                    replace p172 := eq_true p172
                    replace q172 := eq_true q172
                    go_wp2
                    go_roundg k1
                    case measure => have := HK1.out; omega
                    case rel => exact ⟨(false), (decide ((rd l0 x24_1) ≥ t170)), (true), (wrap64 (x24_1 + 1)), (by first | rfl | (simp; done) | (simp [*]; done)), (by first | rfl | (simp; done) | (simp [*]; done)), (by first | rfl | (simp; done) | (simp [*]; done)), (by first | rfl | (simp; done) | (simp [*]; done)), H', ⟨by have := HK1.out; omega⟩, ⟨by (with_reducible repeat (first | refine blk_drewN ?_ _ | refine blk_drew ?_ | refine blk_alloc ?_ _)); exact BK169.out⟩, ⟨by repeat (first | (with_reducible first | exact HB.out | apply below_alloc | apply pw_below_drewN | apply below_drew1 | refine below_set ?_ GE169.out) | exact HB.out)⟩⟩
                  · replace c20 := Bool.eq_false_iff.mpr c20
                    subst c20
                    have H1 : (hornbeamlaw15_SpreadMay.l0 k1 l0 false (decide ((rd l0 x24_1) ≥ t170)) (decide ((rd l0 x24_1) ≤ t170)) t170 t171 l0 (l0.length : Int) (wrap64 (x24_1 + 1)) t166 t167 t168) = some r := by rw [if_neg (show ¬ (false = true) by decide)] at H; exact H
                    clear H
                    have H := H1
                    clear H1
                    have H' := Aside0.mk H
                    clear H
                    have p172 : 0 ≤ (x24_1 : Int) := of_decide_eq_true (by first | (with_reducible assumption) | assumption)
                    have q172 : x24_1 < (l0.length : Int) := of_decide_eq_true (by first | (with_reducible assumption) | assumption)
                    obtain ⟨ad172, e172, hx172_0⟩ := Kd.at_int HR0.out x24_1 p172 q172
                    cases e172
                    replace hx172_0 := (HB.out.cell (World.block_lt_of_cell? w _ hx172_0)).trans hx172_0
                    replace p172 := eq_true p172
                    replace q172 := eq_true q172
                    go_wp2
                    go_roundg k1
                    case measure => have := HK1.out; omega
                    case rel => exact ⟨(false), (decide ((rd l0 x24_1) ≥ t170)), (decide ((rd l0 x24_1) ≤ t170)), (wrap64 (x24_1 + 1)), (by first | rfl | (simp; done) | (simp [*]; done)), (by first | rfl | (simp; done) | (simp [*]; done)), (by first | rfl | (simp; done) | (simp [*]; done)), (by first | rfl | (simp; done) | (simp [*]; done)), H', ⟨by have := HK1.out; omega⟩, ⟨by (with_reducible repeat (first | refine blk_drewN ?_ _ | refine blk_drew ?_ | refine blk_alloc ?_ _)); exact BK169.out⟩, ⟨by repeat (first | (with_reducible first | exact HB.out | apply below_alloc | apply pw_below_drewN | apply below_drew1 | refine below_set ?_ GE169.out) | exact HB.out)⟩⟩
            · rw [if_neg c12] at H
              exact absurd H (by simp)
          · rw [if_neg c11] at H
            exact absurd H (by simp)
        · rw [if_neg c10] at H
          have c10b0 : decide (x24_1 < (l0.length : Int)) = false := decide_eq_false c10
          clear c10
          replace H := Option.bind_eq_some_iff.mp H
          obtain ⟨t174, A210, H⟩ := H
          replace H : (if t174 = true then ((spread_May.f k1 t166 t167 t168).bind fun t175 => (if t175 = true then ((spread_Pure.f k1 t166 t167 t168).bind fun t176 => (if (t176 == x4_1) = true then (if (t171 == (decide ((l0.length : Int) > 0))) = true then (if t171 = true then (if x5_1 = true then (some x6_1) else (some false)) else (some true)) else (some false)) else (some false))) else (some false))) else (some false)) = some r := H
          have A21 := Aside0.mk A210
          clear A210
          by_cases c22 : t174 = true
          · subst c22
            have H1 : ((spread_May.f k1 t166 t167 t168).bind fun t175 => (if t175 = true then ((spread_Pure.f k1 t166 t167 t168).bind fun t176 => (if (t176 == x4_1) = true then (if (t171 == (decide ((l0.length : Int) > 0))) = true then (if t171 = true then (if x5_1 = true then (some x6_1) else (some false)) else (some true)) else (some false)) else (some false))) else (some false))) = some r := by rw [if_pos rfl] at H; exact H
            clear H
            have H := H1
            clear H1
            replace H := Option.bind_eq_some_iff.mp H
            obtain ⟨t175, A230, H⟩ := H
            replace H : (if t175 = true then ((spread_Pure.f k1 t166 t167 t168).bind fun t176 => (if (t176 == x4_1) = true then (if (t171 == (decide ((l0.length : Int) > 0))) = true then (if t171 = true then (if x5_1 = true then (some x6_1) else (some false)) else (some true)) else (some false)) else (some false))) else (some false)) = some r := H
            have A23 := Aside0.mk A230
            clear A230
            by_cases c24 : t175 = true
            · subst c24
              have H1 : ((spread_Pure.f k1 t166 t167 t168).bind fun t176 => (if (t176 == x4_1) = true then (if (t171 == (decide ((l0.length : Int) > 0))) = true then (if t171 = true then (if x5_1 = true then (some x6_1) else (some false)) else (some true)) else (some false)) else (some false))) = some r := by rw [if_pos rfl] at H; exact H
              clear H
              have H := H1
              clear H1
              replace H := Option.bind_eq_some_iff.mp H
              obtain ⟨t176, A250, H⟩ := H
              replace H : (if (t176 == x4_1) = true then (if (t171 == (decide ((l0.length : Int) > 0))) = true then (if t171 = true then (if x5_1 = true then (some x6_1) else (some false)) else (some true)) else (some false)) else (some false)) = some r := H
              have A25 := Aside0.mk A250
              clear A250
              by_cases c26 : (t176 == x4_1) = true
              · rw [if_pos c26] at H
                have c26b0 : (t176 == x4_1) = true := c26
                (try (have c26b1 : decide (t176 = x4_1) = true := by simpa using c26))
                (try (have c26b2 : (t176 == x4_1) = true := by simpa using c26))
                clear c26
                by_cases c27 : (t171 == (decide ((l0.length : Int) > 0))) = true
                · rw [if_pos c27] at H
                  have c27b0 : (t171 == (decide ((l0.length : Int) > 0))) = true := c27
                  (try (have c27b1 : decide (t171 = (decide ((l0.length : Int) > 0))) = true := by simpa using c27))
                  (try (have c27b2 : (t171 == (decide ((l0.length : Int) > 0))) = true := by simpa using c27))
                  clear c27
                  by_cases c28 : t171 = true
                  · subst c28
                    have H1 : (if x5_1 = true then (some x6_1) else (some false)) = some r := by rw [if_pos rfl] at H; exact H
                    clear H
                    have H := H1
                    clear H1
                    by_cases c29 : x5_1 = true
                    · subst c29
                      have H1 : (some x6_1) = some r := by rw [if_pos rfl] at H; exact H
                      clear H
                      have H := H1
                      clear H1
                      obtain rfl := Option.some.inj H
                      go_wp2_with (first | ((with_reducible refine gate_callee (f := 14) rfl ?_); refine goesL_ (some 49) rfl rfl Try.func14 (by kernel_rfl) rfl #[] rfl (by (try simp only [List.map_toArray, List.map_cons, List.map_nil]); first | done | rfl | (simp only [List.length_drop, List.length_take]; rfl)) ?_; (with_reducible refine (hornbeamlaw15_fixed.calls k1  true _ A21.out).mono ?_); rintro e w30 ⟨rfl, hb⟩; refine ⟨_, rfl, ?_⟩; have n0_ := Aside0.mk (blk_below (g := gb169) (o := .cells #[.int .i64 t166, .int .i64 t167, .int .i64 t168] 26 (0, 0)) (by (with_reducible repeat (first | refine blk_drewN ?_ _ | refine blk_drew ?_ | refine blk_alloc ?_ _)); exact BK169.out) hb); have n1_ := Aside0.mk (below_step (by repeat (first | (with_reducible first | exact HB.out | apply below_alloc | apply pw_below_drewN | apply below_drew1 | refine below_set ?_ GE169.out) | exact HB.out)) hb); clear BK169; clear HB; have BK169 := n0_; have HB := n1_; clear n0_ n1_; (try clear hb); (try clear hb2); (try clear hk); (try clear hi); have hcz31_0 : w30.cell? ⟨gb169, 0, none⟩ = some (.int .i64 t166) := (blk_cell BK169.out 0).trans rfl; have hcz31_1 : w30.cell? ⟨gb169, 1, none⟩ = some (.int .i64 t167) := (blk_cell BK169.out 1).trans rfl; have hcz31_2 : w30.cell? ⟨gb169, 2, none⟩ = some (.int .i64 t168) := (blk_cell BK169.out 2).trans rfl; have hfz31_0 := blk_frozen BK169.out 0; have hfz31_1 := blk_frozen BK169.out 1; have hfz31_2 := blk_frozen BK169.out 2) | (go_at_call 17; (with_reducible refine (spread_May.calls k1 t166 t167 t168 true _ A23.out).mono ?_); rintro e w32 ⟨rfl, hb⟩; have n0_ := Aside0.mk (blk_below (g := gb169) (o := .cells #[.int .i64 t166, .int .i64 t167, .int .i64 t168] 26 (0, 0)) (by (with_reducible repeat (first | refine blk_drewN ?_ _ | refine blk_drew ?_ | refine blk_alloc ?_ _)); exact BK169.out) hb); have n1_ := Aside0.mk (below_step (by repeat (first | (with_reducible first | exact HB.out | apply below_alloc | apply pw_below_drewN | apply below_drew1 | refine below_set ?_ GE169.out) | exact HB.out)) hb); clear BK169; clear HB; have BK169 := n0_; have HB := n1_; clear n0_ n1_; (try clear hb); (try clear hb2); (try clear hk); (try clear hi); have hcz33_0 : w32.cell? ⟨gb169, 0, none⟩ = some (.int .i64 t166) := (blk_cell BK169.out 0).trans rfl; have hcz33_1 : w32.cell? ⟨gb169, 1, none⟩ = some (.int .i64 t167) := (blk_cell BK169.out 1).trans rfl; have hcz33_2 : w32.cell? ⟨gb169, 2, none⟩ = some (.int .i64 t168) := (blk_cell BK169.out 2).trans rfl; have hfz33_0 := blk_frozen BK169.out 0; have hfz33_1 := blk_frozen BK169.out 1; have hfz33_2 := blk_frozen BK169.out 2) | (go_at_call 18; (with_reducible refine (spread_Pure.calls k1 t166 t167 t168 t176 _ A25.out).mono ?_); rintro e w34 ⟨rfl, hb⟩; have n0_ := Aside0.mk (blk_below (g := gb169) (o := .cells #[.int .i64 t166, .int .i64 t167, .int .i64 t168] 26 (0, 0)) (by (with_reducible repeat (first | refine blk_drewN ?_ _ | refine blk_drew ?_ | refine blk_alloc ?_ _)); exact BK169.out) hb); have n1_ := Aside0.mk (below_step (by repeat (first | (with_reducible first | exact HB.out | apply below_alloc | apply pw_below_drewN | apply below_drew1 | refine below_set ?_ GE169.out) | exact HB.out)) hb); clear BK169; clear HB; have BK169 := n0_; have HB := n1_; clear n0_ n1_; (try clear hb); (try clear hb2); (try clear hk); (try clear hi)))
                      all_goals (go_ret; exact ⟨by first | rfl | (simp [errW_none, errW_some] <;> rfl) | (simp [*, errW_none, errW_some] <;> rfl) | (simp_all; done), by repeat (first | (with_reducible first | exact HB.out | apply below_alloc | apply pw_below_drewN | apply below_drew1 | refine below_set ?_ GE169.out) | exact HB.out)⟩)
                    · replace c29 := Bool.eq_false_iff.mpr c29
                      subst c29
                      have H1 : (some false) = some r := by rw [if_neg (show ¬ (false = true) by decide)] at H; exact H
                      clear H
                      have H := H1
                      clear H1
                      obtain rfl := Option.some.inj H
                      go_wp2_with (first | ((with_reducible refine gate_callee (f := 14) rfl ?_); refine goesL_ (some 49) rfl rfl Try.func14 (by kernel_rfl) rfl #[] rfl (by (try simp only [List.map_toArray, List.map_cons, List.map_nil]); first | done | rfl | (simp only [List.length_drop, List.length_take]; rfl)) ?_; (with_reducible refine (hornbeamlaw15_fixed.calls k1  true _ A21.out).mono ?_); rintro e w35 ⟨rfl, hb⟩; refine ⟨_, rfl, ?_⟩; have n0_ := Aside0.mk (blk_below (g := gb169) (o := .cells #[.int .i64 t166, .int .i64 t167, .int .i64 t168] 26 (0, 0)) (by (with_reducible repeat (first | refine blk_drewN ?_ _ | refine blk_drew ?_ | refine blk_alloc ?_ _)); exact BK169.out) hb); have n1_ := Aside0.mk (below_step (by repeat (first | (with_reducible first | exact HB.out | apply below_alloc | apply pw_below_drewN | apply below_drew1 | refine below_set ?_ GE169.out) | exact HB.out)) hb); clear BK169; clear HB; have BK169 := n0_; have HB := n1_; clear n0_ n1_; (try clear hb); (try clear hb2); (try clear hk); (try clear hi); have hcz36_0 : w35.cell? ⟨gb169, 0, none⟩ = some (.int .i64 t166) := (blk_cell BK169.out 0).trans rfl; have hcz36_1 : w35.cell? ⟨gb169, 1, none⟩ = some (.int .i64 t167) := (blk_cell BK169.out 1).trans rfl; have hcz36_2 : w35.cell? ⟨gb169, 2, none⟩ = some (.int .i64 t168) := (blk_cell BK169.out 2).trans rfl; have hfz36_0 := blk_frozen BK169.out 0; have hfz36_1 := blk_frozen BK169.out 1; have hfz36_2 := blk_frozen BK169.out 2) | (go_at_call 17; (with_reducible refine (spread_May.calls k1 t166 t167 t168 true _ A23.out).mono ?_); rintro e w37 ⟨rfl, hb⟩; have n0_ := Aside0.mk (blk_below (g := gb169) (o := .cells #[.int .i64 t166, .int .i64 t167, .int .i64 t168] 26 (0, 0)) (by (with_reducible repeat (first | refine blk_drewN ?_ _ | refine blk_drew ?_ | refine blk_alloc ?_ _)); exact BK169.out) hb); have n1_ := Aside0.mk (below_step (by repeat (first | (with_reducible first | exact HB.out | apply below_alloc | apply pw_below_drewN | apply below_drew1 | refine below_set ?_ GE169.out) | exact HB.out)) hb); clear BK169; clear HB; have BK169 := n0_; have HB := n1_; clear n0_ n1_; (try clear hb); (try clear hb2); (try clear hk); (try clear hi); have hcz38_0 : w37.cell? ⟨gb169, 0, none⟩ = some (.int .i64 t166) := (blk_cell BK169.out 0).trans rfl; have hcz38_1 : w37.cell? ⟨gb169, 1, none⟩ = some (.int .i64 t167) := (blk_cell BK169.out 1).trans rfl; have hcz38_2 : w37.cell? ⟨gb169, 2, none⟩ = some (.int .i64 t168) := (blk_cell BK169.out 2).trans rfl; have hfz38_0 := blk_frozen BK169.out 0; have hfz38_1 := blk_frozen BK169.out 1; have hfz38_2 := blk_frozen BK169.out 2) | (go_at_call 18; (with_reducible refine (spread_Pure.calls k1 t166 t167 t168 t176 _ A25.out).mono ?_); rintro e w39 ⟨rfl, hb⟩; have n0_ := Aside0.mk (blk_below (g := gb169) (o := .cells #[.int .i64 t166, .int .i64 t167, .int .i64 t168] 26 (0, 0)) (by (with_reducible repeat (first | refine blk_drewN ?_ _ | refine blk_drew ?_ | refine blk_alloc ?_ _)); exact BK169.out) hb); have n1_ := Aside0.mk (below_step (by repeat (first | (with_reducible first | exact HB.out | apply below_alloc | apply pw_below_drewN | apply below_drew1 | refine below_set ?_ GE169.out) | exact HB.out)) hb); clear BK169; clear HB; have BK169 := n0_; have HB := n1_; clear n0_ n1_; (try clear hb); (try clear hb2); (try clear hk); (try clear hi)))
                      all_goals (go_ret; exact ⟨by first | rfl | (simp [errW_none, errW_some] <;> rfl) | (simp [*, errW_none, errW_some] <;> rfl) | (simp_all; done), by repeat (first | (with_reducible first | exact HB.out | apply below_alloc | apply pw_below_drewN | apply below_drew1 | refine below_set ?_ GE169.out) | exact HB.out)⟩)
                  · replace c28 := Bool.eq_false_iff.mpr c28
                    subst c28
                    have H1 : (some true) = some r := by rw [if_neg (show ¬ (false = true) by decide)] at H; exact H
                    clear H
                    have H := H1
                    clear H1
                    obtain rfl := Option.some.inj H
                    go_wp2_with (first | ((with_reducible refine gate_callee (f := 14) rfl ?_); refine goesL_ (some 49) rfl rfl Try.func14 (by kernel_rfl) rfl #[] rfl (by (try simp only [List.map_toArray, List.map_cons, List.map_nil]); first | done | rfl | (simp only [List.length_drop, List.length_take]; rfl)) ?_; (with_reducible refine (hornbeamlaw15_fixed.calls k1  true _ A21.out).mono ?_); rintro e w40 ⟨rfl, hb⟩; refine ⟨_, rfl, ?_⟩; have n0_ := Aside0.mk (blk_below (g := gb169) (o := .cells #[.int .i64 t166, .int .i64 t167, .int .i64 t168] 26 (0, 0)) (by (with_reducible repeat (first | refine blk_drewN ?_ _ | refine blk_drew ?_ | refine blk_alloc ?_ _)); exact BK169.out) hb); have n1_ := Aside0.mk (below_step (by repeat (first | (with_reducible first | exact HB.out | apply below_alloc | apply pw_below_drewN | apply below_drew1 | refine below_set ?_ GE169.out) | exact HB.out)) hb); clear BK169; clear HB; have BK169 := n0_; have HB := n1_; clear n0_ n1_; (try clear hb); (try clear hb2); (try clear hk); (try clear hi); have hcz41_0 : w40.cell? ⟨gb169, 0, none⟩ = some (.int .i64 t166) := (blk_cell BK169.out 0).trans rfl; have hcz41_1 : w40.cell? ⟨gb169, 1, none⟩ = some (.int .i64 t167) := (blk_cell BK169.out 1).trans rfl; have hcz41_2 : w40.cell? ⟨gb169, 2, none⟩ = some (.int .i64 t168) := (blk_cell BK169.out 2).trans rfl; have hfz41_0 := blk_frozen BK169.out 0; have hfz41_1 := blk_frozen BK169.out 1; have hfz41_2 := blk_frozen BK169.out 2) | (go_at_call 17; (with_reducible refine (spread_May.calls k1 t166 t167 t168 true _ A23.out).mono ?_); rintro e w42 ⟨rfl, hb⟩; have n0_ := Aside0.mk (blk_below (g := gb169) (o := .cells #[.int .i64 t166, .int .i64 t167, .int .i64 t168] 26 (0, 0)) (by (with_reducible repeat (first | refine blk_drewN ?_ _ | refine blk_drew ?_ | refine blk_alloc ?_ _)); exact BK169.out) hb); have n1_ := Aside0.mk (below_step (by repeat (first | (with_reducible first | exact HB.out | apply below_alloc | apply pw_below_drewN | apply below_drew1 | refine below_set ?_ GE169.out) | exact HB.out)) hb); clear BK169; clear HB; have BK169 := n0_; have HB := n1_; clear n0_ n1_; (try clear hb); (try clear hb2); (try clear hk); (try clear hi); have hcz43_0 : w42.cell? ⟨gb169, 0, none⟩ = some (.int .i64 t166) := (blk_cell BK169.out 0).trans rfl; have hcz43_1 : w42.cell? ⟨gb169, 1, none⟩ = some (.int .i64 t167) := (blk_cell BK169.out 1).trans rfl; have hcz43_2 : w42.cell? ⟨gb169, 2, none⟩ = some (.int .i64 t168) := (blk_cell BK169.out 2).trans rfl; have hfz43_0 := blk_frozen BK169.out 0; have hfz43_1 := blk_frozen BK169.out 1; have hfz43_2 := blk_frozen BK169.out 2) | (go_at_call 18; (with_reducible refine (spread_Pure.calls k1 t166 t167 t168 t176 _ A25.out).mono ?_); rintro e w44 ⟨rfl, hb⟩; have n0_ := Aside0.mk (blk_below (g := gb169) (o := .cells #[.int .i64 t166, .int .i64 t167, .int .i64 t168] 26 (0, 0)) (by (with_reducible repeat (first | refine blk_drewN ?_ _ | refine blk_drew ?_ | refine blk_alloc ?_ _)); exact BK169.out) hb); have n1_ := Aside0.mk (below_step (by repeat (first | (with_reducible first | exact HB.out | apply below_alloc | apply pw_below_drewN | apply below_drew1 | refine below_set ?_ GE169.out) | exact HB.out)) hb); clear BK169; clear HB; have BK169 := n0_; have HB := n1_; clear n0_ n1_; (try clear hb); (try clear hb2); (try clear hk); (try clear hi)))
                    all_goals (go_ret; exact ⟨by first | rfl | (simp [errW_none, errW_some] <;> rfl) | (simp [*, errW_none, errW_some] <;> rfl) | (simp_all; done), by repeat (first | (with_reducible first | exact HB.out | apply below_alloc | apply pw_below_drewN | apply below_drew1 | refine below_set ?_ GE169.out) | exact HB.out)⟩)
                · rw [if_neg c27] at H
                  have c27b0 : (t171 == (decide ((l0.length : Int) > 0))) = false := by simpa using c27
                  (try (have c27b1 : decide (t171 = (decide ((l0.length : Int) > 0))) = false := by simpa using c27))
                  (try (have c27b2 : (t171 == (decide ((l0.length : Int) > 0))) = false := by simpa using c27))
                  (try (have c27b3 : ¬ (t171 = (decide ((l0.length : Int) > 0))) := by simpa using c27))
                  clear c27
                  obtain rfl := Option.some.inj H
                  go_wp2_with (first | ((with_reducible refine gate_callee (f := 14) rfl ?_); refine goesL_ (some 49) rfl rfl Try.func14 (by kernel_rfl) rfl #[] rfl (by (try simp only [List.map_toArray, List.map_cons, List.map_nil]); first | done | rfl | (simp only [List.length_drop, List.length_take]; rfl)) ?_; (with_reducible refine (hornbeamlaw15_fixed.calls k1  true _ A21.out).mono ?_); rintro e w45 ⟨rfl, hb⟩; refine ⟨_, rfl, ?_⟩; have n0_ := Aside0.mk (blk_below (g := gb169) (o := .cells #[.int .i64 t166, .int .i64 t167, .int .i64 t168] 26 (0, 0)) (by (with_reducible repeat (first | refine blk_drewN ?_ _ | refine blk_drew ?_ | refine blk_alloc ?_ _)); exact BK169.out) hb); have n1_ := Aside0.mk (below_step (by repeat (first | (with_reducible first | exact HB.out | apply below_alloc | apply pw_below_drewN | apply below_drew1 | refine below_set ?_ GE169.out) | exact HB.out)) hb); clear BK169; clear HB; have BK169 := n0_; have HB := n1_; clear n0_ n1_; (try clear hb); (try clear hb2); (try clear hk); (try clear hi); have hcz46_0 : w45.cell? ⟨gb169, 0, none⟩ = some (.int .i64 t166) := (blk_cell BK169.out 0).trans rfl; have hcz46_1 : w45.cell? ⟨gb169, 1, none⟩ = some (.int .i64 t167) := (blk_cell BK169.out 1).trans rfl; have hcz46_2 : w45.cell? ⟨gb169, 2, none⟩ = some (.int .i64 t168) := (blk_cell BK169.out 2).trans rfl; have hfz46_0 := blk_frozen BK169.out 0; have hfz46_1 := blk_frozen BK169.out 1; have hfz46_2 := blk_frozen BK169.out 2) | (go_at_call 17; (with_reducible refine (spread_May.calls k1 t166 t167 t168 true _ A23.out).mono ?_); rintro e w47 ⟨rfl, hb⟩; have n0_ := Aside0.mk (blk_below (g := gb169) (o := .cells #[.int .i64 t166, .int .i64 t167, .int .i64 t168] 26 (0, 0)) (by (with_reducible repeat (first | refine blk_drewN ?_ _ | refine blk_drew ?_ | refine blk_alloc ?_ _)); exact BK169.out) hb); have n1_ := Aside0.mk (below_step (by repeat (first | (with_reducible first | exact HB.out | apply below_alloc | apply pw_below_drewN | apply below_drew1 | refine below_set ?_ GE169.out) | exact HB.out)) hb); clear BK169; clear HB; have BK169 := n0_; have HB := n1_; clear n0_ n1_; (try clear hb); (try clear hb2); (try clear hk); (try clear hi); have hcz48_0 : w47.cell? ⟨gb169, 0, none⟩ = some (.int .i64 t166) := (blk_cell BK169.out 0).trans rfl; have hcz48_1 : w47.cell? ⟨gb169, 1, none⟩ = some (.int .i64 t167) := (blk_cell BK169.out 1).trans rfl; have hcz48_2 : w47.cell? ⟨gb169, 2, none⟩ = some (.int .i64 t168) := (blk_cell BK169.out 2).trans rfl; have hfz48_0 := blk_frozen BK169.out 0; have hfz48_1 := blk_frozen BK169.out 1; have hfz48_2 := blk_frozen BK169.out 2) | (go_at_call 18; (with_reducible refine (spread_Pure.calls k1 t166 t167 t168 t176 _ A25.out).mono ?_); rintro e w49 ⟨rfl, hb⟩; have n0_ := Aside0.mk (blk_below (g := gb169) (o := .cells #[.int .i64 t166, .int .i64 t167, .int .i64 t168] 26 (0, 0)) (by (with_reducible repeat (first | refine blk_drewN ?_ _ | refine blk_drew ?_ | refine blk_alloc ?_ _)); exact BK169.out) hb); have n1_ := Aside0.mk (below_step (by repeat (first | (with_reducible first | exact HB.out | apply below_alloc | apply pw_below_drewN | apply below_drew1 | refine below_set ?_ GE169.out) | exact HB.out)) hb); clear BK169; clear HB; have BK169 := n0_; have HB := n1_; clear n0_ n1_; (try clear hb); (try clear hb2); (try clear hk); (try clear hi)))
                  all_goals (go_ret; exact ⟨by first | rfl | (simp [errW_none, errW_some] <;> rfl) | (simp [*, errW_none, errW_some] <;> rfl) | (simp_all; done), by repeat (first | (with_reducible first | exact HB.out | apply below_alloc | apply pw_below_drewN | apply below_drew1 | refine below_set ?_ GE169.out) | exact HB.out)⟩)
              · rw [if_neg c26] at H
                have c26b0 : (t176 == x4_1) = false := by simpa using c26
                (try (have c26b1 : decide (t176 = x4_1) = false := by simpa using c26))
                (try (have c26b2 : (t176 == x4_1) = false := by simpa using c26))
                (try (have c26b3 : ¬ (t176 = x4_1) := by simpa using c26))
                clear c26
                obtain rfl := Option.some.inj H
                go_wp2_with (first | ((with_reducible refine gate_callee (f := 14) rfl ?_); refine goesL_ (some 49) rfl rfl Try.func14 (by kernel_rfl) rfl #[] rfl (by (try simp only [List.map_toArray, List.map_cons, List.map_nil]); first | done | rfl | (simp only [List.length_drop, List.length_take]; rfl)) ?_; (with_reducible refine (hornbeamlaw15_fixed.calls k1  true _ A21.out).mono ?_); rintro e w50 ⟨rfl, hb⟩; refine ⟨_, rfl, ?_⟩; have n0_ := Aside0.mk (blk_below (g := gb169) (o := .cells #[.int .i64 t166, .int .i64 t167, .int .i64 t168] 26 (0, 0)) (by (with_reducible repeat (first | refine blk_drewN ?_ _ | refine blk_drew ?_ | refine blk_alloc ?_ _)); exact BK169.out) hb); have n1_ := Aside0.mk (below_step (by repeat (first | (with_reducible first | exact HB.out | apply below_alloc | apply pw_below_drewN | apply below_drew1 | refine below_set ?_ GE169.out) | exact HB.out)) hb); clear BK169; clear HB; have BK169 := n0_; have HB := n1_; clear n0_ n1_; (try clear hb); (try clear hb2); (try clear hk); (try clear hi); have hcz51_0 : w50.cell? ⟨gb169, 0, none⟩ = some (.int .i64 t166) := (blk_cell BK169.out 0).trans rfl; have hcz51_1 : w50.cell? ⟨gb169, 1, none⟩ = some (.int .i64 t167) := (blk_cell BK169.out 1).trans rfl; have hcz51_2 : w50.cell? ⟨gb169, 2, none⟩ = some (.int .i64 t168) := (blk_cell BK169.out 2).trans rfl; have hfz51_0 := blk_frozen BK169.out 0; have hfz51_1 := blk_frozen BK169.out 1; have hfz51_2 := blk_frozen BK169.out 2) | (go_at_call 17; (with_reducible refine (spread_May.calls k1 t166 t167 t168 true _ A23.out).mono ?_); rintro e w52 ⟨rfl, hb⟩; have n0_ := Aside0.mk (blk_below (g := gb169) (o := .cells #[.int .i64 t166, .int .i64 t167, .int .i64 t168] 26 (0, 0)) (by (with_reducible repeat (first | refine blk_drewN ?_ _ | refine blk_drew ?_ | refine blk_alloc ?_ _)); exact BK169.out) hb); have n1_ := Aside0.mk (below_step (by repeat (first | (with_reducible first | exact HB.out | apply below_alloc | apply pw_below_drewN | apply below_drew1 | refine below_set ?_ GE169.out) | exact HB.out)) hb); clear BK169; clear HB; have BK169 := n0_; have HB := n1_; clear n0_ n1_; (try clear hb); (try clear hb2); (try clear hk); (try clear hi); have hcz53_0 : w52.cell? ⟨gb169, 0, none⟩ = some (.int .i64 t166) := (blk_cell BK169.out 0).trans rfl; have hcz53_1 : w52.cell? ⟨gb169, 1, none⟩ = some (.int .i64 t167) := (blk_cell BK169.out 1).trans rfl; have hcz53_2 : w52.cell? ⟨gb169, 2, none⟩ = some (.int .i64 t168) := (blk_cell BK169.out 2).trans rfl; have hfz53_0 := blk_frozen BK169.out 0; have hfz53_1 := blk_frozen BK169.out 1; have hfz53_2 := blk_frozen BK169.out 2) | (go_at_call 18; (with_reducible refine (spread_Pure.calls k1 t166 t167 t168 t176 _ A25.out).mono ?_); rintro e w54 ⟨rfl, hb⟩; have n0_ := Aside0.mk (blk_below (g := gb169) (o := .cells #[.int .i64 t166, .int .i64 t167, .int .i64 t168] 26 (0, 0)) (by (with_reducible repeat (first | refine blk_drewN ?_ _ | refine blk_drew ?_ | refine blk_alloc ?_ _)); exact BK169.out) hb); have n1_ := Aside0.mk (below_step (by repeat (first | (with_reducible first | exact HB.out | apply below_alloc | apply pw_below_drewN | apply below_drew1 | refine below_set ?_ GE169.out) | exact HB.out)) hb); clear BK169; clear HB; have BK169 := n0_; have HB := n1_; clear n0_ n1_; (try clear hb); (try clear hb2); (try clear hk); (try clear hi)))
                all_goals (go_ret; exact ⟨by first | rfl | (simp [errW_none, errW_some] <;> rfl) | (simp [*, errW_none, errW_some] <;> rfl) | (simp_all; done), by repeat (first | (with_reducible first | exact HB.out | apply below_alloc | apply pw_below_drewN | apply below_drew1 | refine below_set ?_ GE169.out) | exact HB.out)⟩)
            · replace c24 := Bool.eq_false_iff.mpr c24
              subst c24
              have H1 : (some false) = some r := by rw [if_neg (show ¬ (false = true) by decide)] at H; exact H
              clear H
              have H := H1
              clear H1
              obtain rfl := Option.some.inj H
              go_wp2_with (first | ((with_reducible refine gate_callee (f := 14) rfl ?_); refine goesL_ (some 49) rfl rfl Try.func14 (by kernel_rfl) rfl #[] rfl (by (try simp only [List.map_toArray, List.map_cons, List.map_nil]); first | done | rfl | (simp only [List.length_drop, List.length_take]; rfl)) ?_; (with_reducible refine (hornbeamlaw15_fixed.calls k1  true _ A21.out).mono ?_); rintro e w55 ⟨rfl, hb⟩; refine ⟨_, rfl, ?_⟩; have n0_ := Aside0.mk (blk_below (g := gb169) (o := .cells #[.int .i64 t166, .int .i64 t167, .int .i64 t168] 26 (0, 0)) (by (with_reducible repeat (first | refine blk_drewN ?_ _ | refine blk_drew ?_ | refine blk_alloc ?_ _)); exact BK169.out) hb); have n1_ := Aside0.mk (below_step (by repeat (first | (with_reducible first | exact HB.out | apply below_alloc | apply pw_below_drewN | apply below_drew1 | refine below_set ?_ GE169.out) | exact HB.out)) hb); clear BK169; clear HB; have BK169 := n0_; have HB := n1_; clear n0_ n1_; (try clear hb); (try clear hb2); (try clear hk); (try clear hi); have hcz56_0 : w55.cell? ⟨gb169, 0, none⟩ = some (.int .i64 t166) := (blk_cell BK169.out 0).trans rfl; have hcz56_1 : w55.cell? ⟨gb169, 1, none⟩ = some (.int .i64 t167) := (blk_cell BK169.out 1).trans rfl; have hcz56_2 : w55.cell? ⟨gb169, 2, none⟩ = some (.int .i64 t168) := (blk_cell BK169.out 2).trans rfl; have hfz56_0 := blk_frozen BK169.out 0; have hfz56_1 := blk_frozen BK169.out 1; have hfz56_2 := blk_frozen BK169.out 2) | (go_at_call 17; (with_reducible refine (spread_May.calls k1 t166 t167 t168 false _ A23.out).mono ?_); rintro e w57 ⟨rfl, hb⟩; have n0_ := Aside0.mk (blk_below (g := gb169) (o := .cells #[.int .i64 t166, .int .i64 t167, .int .i64 t168] 26 (0, 0)) (by (with_reducible repeat (first | refine blk_drewN ?_ _ | refine blk_drew ?_ | refine blk_alloc ?_ _)); exact BK169.out) hb); have n1_ := Aside0.mk (below_step (by repeat (first | (with_reducible first | exact HB.out | apply below_alloc | apply pw_below_drewN | apply below_drew1 | refine below_set ?_ GE169.out) | exact HB.out)) hb); clear BK169; clear HB; have BK169 := n0_; have HB := n1_; clear n0_ n1_; (try clear hb); (try clear hb2); (try clear hk); (try clear hi)))
              all_goals (go_ret; exact ⟨by first | rfl | (simp [errW_none, errW_some] <;> rfl) | (simp [*, errW_none, errW_some] <;> rfl) | (simp_all; done), by repeat (first | (with_reducible first | exact HB.out | apply below_alloc | apply pw_below_drewN | apply below_drew1 | refine below_set ?_ GE169.out) | exact HB.out)⟩)
          · replace c22 := Bool.eq_false_iff.mpr c22
            subst c22
            have H1 : (some false) = some r := by rw [if_neg (show ¬ (false = true) by decide)] at H; exact H
            clear H
            have H := H1
            clear H1
            obtain rfl := Option.some.inj H
            go_wp2_with (first | ((with_reducible refine gate_callee (f := 14) rfl ?_); refine goesL_ (some 49) rfl rfl Try.func14 (by kernel_rfl) rfl #[] rfl (by (try simp only [List.map_toArray, List.map_cons, List.map_nil]); first | done | rfl | (simp only [List.length_drop, List.length_take]; rfl)) ?_; (with_reducible refine (hornbeamlaw15_fixed.calls k1  false _ A21.out).mono ?_); rintro e w58 ⟨rfl, hb⟩; refine ⟨_, rfl, ?_⟩; have n0_ := Aside0.mk (blk_below (g := gb169) (o := .cells #[.int .i64 t166, .int .i64 t167, .int .i64 t168] 26 (0, 0)) (by (with_reducible repeat (first | refine blk_drewN ?_ _ | refine blk_drew ?_ | refine blk_alloc ?_ _)); exact BK169.out) hb); have n1_ := Aside0.mk (below_step (by repeat (first | (with_reducible first | exact HB.out | apply below_alloc | apply pw_below_drewN | apply below_drew1 | refine below_set ?_ GE169.out) | exact HB.out)) hb); clear BK169; clear HB; have BK169 := n0_; have HB := n1_; clear n0_ n1_; (try clear hb); (try clear hb2); (try clear hk); (try clear hi)))
            all_goals (go_ret; exact ⟨by first | rfl | (simp [errW_none, errW_some] <;> rfl) | (simp [*, errW_none, errW_some] <;> rfl) | (simp_all; done), by repeat (first | (with_reducible first | exact HB.out | apply below_alloc | apply pw_below_drewN | apply below_drew1 | refine below_set ?_ GE169.out) | exact HB.out)⟩)
  · replace c3 := Bool.eq_false_iff.mpr c3
    subst c3
    have H1 : ((hornbeamlaw15_fixed.f k).bind fun t165 => (some t165)) = some r := by rw [if_neg (show ¬ (false = true) by decide)] at H; exact H
    clear H
    have H := H1
    clear H1
    replace H := Option.bind_eq_some_iff.mp H
    obtain ⟨t165, A590, H⟩ := H
    replace H : (some t165) = some r := H
    have A59 := Aside0.mk A590
    clear A590
    obtain rfl := Option.some.inj H
    go_enter Try.func3, Try.ntmps3
    go_wp2_with (first | ((with_reducible refine gate_callee (f := 13) rfl ?_); refine goesL_ (some 12) rfl rfl Try.func13 (by kernel_rfl) rfl #[.slice A0 l0.length c0] rfl (by (try simp only [List.map_toArray, List.map_cons, List.map_nil]); first | done | rfl | (simp only [List.length_drop, List.length_take]; rfl)) ?_; (with_reducible refine (hornbeamlaw15_limited.calls k _ _ l0 false _ ?side1 ?side2 A2.out).mono ?_); (case side1 => repeat (first | exact HR0.out | (with_reducible refine Kd.C_alloc ?_ _) | (with_reducible refine Kd.C_drewN ?_ _) | (with_reducible refine Kd.C_drew ?_))); (case side2 => exact HC0.out); rintro e w' ⟨rfl, ⟨nd, rfl⟩⟩; refine ⟨_, rfl, ?_⟩) | ((with_reducible refine gate_callee (f := 14) rfl ?_); refine goesL_ (some 14) rfl rfl Try.func14 (by kernel_rfl) rfl #[] rfl (by (try simp only [List.map_toArray, List.map_cons, List.map_nil]); first | done | rfl | (simp only [List.length_drop, List.length_take]; rfl)) ?_; (with_reducible refine (hornbeamlaw15_fixed.calls k  t165 _ A59.out).mono ?_); rintro e w60 ⟨rfl, hb⟩; refine ⟨_, rfl, ?_⟩; have n0_ := Aside0.mk (below_step (by repeat (first | (with_reducible first | exact HB.out | apply below_alloc | apply pw_below_drewN | apply below_drew1) | exact HB.out)) hb); clear HB; have HB := n0_; clear n0_; (try clear hb); (try clear hb2); (try clear hk); (try clear hi)))
    all_goals (go_ret; exact ⟨by first | rfl | (simp [errW_none, errW_some] <;> rfl) | (simp [*, errW_none, errW_some] <;> rfl) | (simp_all; done), by repeat (first | (with_reducible first | exact HB.out | apply below_alloc | apply pw_below_drewN | apply below_drew1) | exact HB.out)⟩)

/-- THE ONE PURE STATEMENT of hornbeamlaw15_SpreadMay: yours. -/
def hornbeamlaw15_SpreadMay.Pure : Prop := ∀ (l0 : List Int), l0.length ≤ maxLen → l0.length * 8 ≤ 140737488351232 → (∀ x ∈ l0, (Lit.int .i64 x).wf = true) → ∃ k, hornbeamlaw15_SpreadMay.f k l0 = some true
theorem hornbeamlaw15_SpreadMay.walk (P : hornbeamlaw15_SpreadMay.Pure) (a0 : Option Addr) (len0 cap0 : Nat) (z0 : List Int) (w : World) (w0 : (a0 = none ∧ len0 = 0 ∧ cap0 = 0 ∧ z0 = []) ∨ ∃ x, a0 = some x ∧ len0 ≤ cap0 ∧ cap0 ≤ maxLen ∧ z0.length = cap0 ∧ (∀ i, i < z0.length → w.cell? (x.add i) = some (.int .i64 (z0.getD i 0))) ∧ ∀ n ∈ z0, (Lit.int .i64 n).wf = true) (y0 : len0 * 8 ≤ 140737488351232) :
    Calls Try.prog 3 #[.slice a0 len0 cap0] w fun e w' => e = .returned (.bool true) ∧ Below w.heap.size w w' := by
  obtain ⟨l0, rfl, hr0, hm0, hw0, hc0⟩ := ReadsInt.ofRowC w0
  obtain ⟨k, h⟩ := P l0 hm0 y0 hw0
  refine (hornbeamlaw15_SpreadMay.calls k _ _ l0 true w (Kd.C_of_reads (d := (0 : Int)) (h1 := fun _ => rfl) hr0) hc0 h).mono ?_
  rintro e w' ⟨rfl, hd⟩
  exact ⟨rfl, hd⟩

end Go.Proofs.Ytoonddgldmfleaa.QSpreadMay
