-- Written by a program of this session (wip/tools/mkprint.py over the kit's print); Lean checks it.
import Derived.Test.YtpbgfmbkjojdeaaQGiniEndsx0
import Derived.Test.YtpbgfmbkjojdeaaQGiniEndsx2
import Derived.Test.YtpbgfmbkjojdeaaQGiniEndsx3
namespace Go.Proofs.Ytpbgfmbkjojdeaa.QGiniEnds
open Go.RowKit Go.Proofs.YtpbgfmbkjojdeaaW.PrintWords Go.Proofs.YtpbgfmbkjojdeaaW.PrintLast Go.Proofs.YtpbgfmbkjojdeaaW.PrintMore
attribute [local go_sem] max2_int min2_int max_two min_two max_three min_three max_four min_four   -- for this text's walks alone
set_option linter.unusedVariables false
set_option linter.unusedSimpArgs false

/-! ### hornbeamref04_OfWide: function 30 -/
def hornbeamref04_OfWide.f (a0_0 : Int) (a0_1 : Int) : Option (List Int) := (hornbeamref04_Digits.f a0_1).bind fun t169 => ((hornbeamref04_Digits.f a0_0).bind fun t172 => (if t169.length + t172.length < 17592186044416 then (some (t169 ++ t172)) else (none)))
def hornbeamref04_OfWide.T1 : Bool × List (List Nat × List Nat) := (true, [([], []), ([0], [0]), ([1], [1]), ([], []), ([3], [3]), ([4, 2], [4]), ([2, 5, 5], [2, 5]), ([6, 6, 0, 1, 2, 3, 4, 5, 6], [6])])
def hornbeamref04_OfWide.B1 : List Nat := [0, 1, 3, 0, 8, 31, 63, 127]
theorem hornbeamref04_OfWide.tab1 : rtab .any (opsOf Try.f30 1) = hornbeamref04_OfWide.T1 := by kernel_rfl
theorem hornbeamref04_OfWide.bits1 : waitsOk hornbeamref04_OfWide.T1.2 hornbeamref04_OfWide.B1 = true := by kernel_rfl
set_option maxHeartbeats 8000000 in
set_option maxRecDepth 100000 in
theorem hornbeamref04_OfWide.calls (a0_0 : Int) (a0_1 : Int) (r : List Int) (w : World) (h : hornbeamref04_OfWide.f a0_0 a0_1 = some r) :
    Calls Try.prog 30 #[.agg #[.int .u64 a0_0, .int .u64 a0_1]] w fun e w' => ∃ v0_ : Value, e = .returned (v0_) ∧ Kd.R (Kd.int .u64) 25 w' w.heap.size (fun _ => True) v0_ r ∧ Below w.heap.size w w' := by
  have hu27 := Try.underlying27
  have HB := Aside0.mk (Below.refl w.heap.size w)
  have H : ((hornbeamref04_Digits.f a0_1).bind fun t169 => ((hornbeamref04_Digits.f a0_0).bind fun t172 => (if t169.length + t172.length < 17592186044416 then (some (t169 ++ t172)) else (none)))) = some r := h
  clear h
  replace H := Option.bind_eq_some_iff.mp H
  obtain ⟨t169, A20, H⟩ := H
  replace H : ((hornbeamref04_Digits.f a0_0).bind fun t172 => (if t169.length + t172.length < 17592186044416 then (some (t169 ++ t172)) else (none))) = some r := H
  have A2 := Aside0.mk A20
  clear A20
  replace H := Option.bind_eq_some_iff.mp H
  obtain ⟨t172, A30, H⟩ := H
  replace H : (if t169.length + t172.length < 17592186044416 then (some (t169 ++ t172)) else (none)) = some r := H
  have A3 := Aside0.mk A30
  clear A30
  by_cases c4 : t169.length + t172.length < 17592186044416
  · rw [if_pos c4] at H
    have LMc4 := Aside0.mk c4
    clear c4
    obtain ⟨y175, hy175⟩ : ∃ y_ : List Int, y_ = (t169 ++ t172) := ⟨_, rfl⟩
    replace H : (some y175) = some r := by first | (rw [hy175]; with_reducible exact H) | (have H2_ := (Option.bind_some _ _).symm.trans H; rw [hy175]; with_reducible exact H2_) | (have H2_ := (Option.bind_some _ _).symm.trans H; with_reducible exact H2_) | with_reducible exact H | (rw [hy175]; exact H) | exact H
    have Ny175 := Aside0.mk hy175
    clear hy175
    obtain rfl := Option.some.inj H
    go_enter Try.func30, Try.ntmps30
    try go_wp2_with (first | ((with_reducible refine gate_dst (N := 1) rfl ?_); refine box_event ?hg (N := 1) ?hd (cs := #[.int .u64 a0_0, .int .u64 a0_1]) (t := 27) ?hr ?_; (case hd => rfl); (case hg => rfl); (case hr => first | (go_simp; done) | (go_simp; rfl)); intro gb168 hg w5 hbox hb; have n0_ := Aside0.mk (below_step (by repeat (first | (with_reducible first | exact HB.out | apply below_alloc | apply pw_below_drewN | apply below_drew1) | exact HB.out)) hb); have n1_ := Aside0.mk (hbox); have n2_ := Aside0.mk ((by rw [hg]; exact (below_size (by repeat (first | (with_reducible first | exact HB.out | apply below_alloc | apply pw_below_drewN | apply below_drew1) | exact HB.out))) : w.heap.size ≤ gb168)); have n3_ := Aside0.mk ((by rw [hg]; exact (below_size (by repeat (first | (with_reducible first | exact HB.out | apply below_alloc | apply pw_below_drewN | apply below_drew1) | exact HB.out))) : w.heap.size ≤ gb168)); clear HB; have HB := n0_; have BK168 := n1_; have GW168 := n2_; have GE168 := n3_; clear n0_ n1_ n2_ n3_; clear hb hbox hg))
    have n0_ := Aside0.mk (blk_drew BK168.out)
    have n1_ := Aside0.mk (below_drew1 HB.out)
    clear BK168
    clear HB
    have BK168 := n0_
    have HB := n1_
    clear n0_ n1_
    refine start_ (n := 8) (S := fun w' => w'.cell? ⟨gb168, 0, none⟩ = some (.int .u64 a0_0) ∧ w'.cell? ⟨gb168, 1, none⟩ = some (.int .u64 a0_1)) (ds := []) #[false, false, false, false, false, false, false, false] (by kernel_rfl) rfl rfl ⟨(blk_cell BK168.out 0).trans rfl, (blk_cell BK168.out 1).trans rfl⟩ (fun hHeld => ?_); refine with_tabW hornbeamref04_OfWide.tab1 hornbeamref04_OfWide.bits1 (fun HT_ HW_ => ?_)
    generalize w5.drew = w6 at BK168 HB hHeld ⊢
    refine pure_ (i := 0) (N := some 3) (v := ?_) (a' := ?_) #[true, false, false, false, false, false, false, false] rfl rfl (any_of HT_.out (by kernel_rfl)) (fun _ _ _ h => h) (Or.inl ⟨by rfl, ?_⟩) ?_ ?_
    rotate_left
    · intro w'
      go_simp
      with_reducible rfl
    rotate_left
    · simp only [Act.put, List.setIfInBounds_toArray, List.set_cons_zero, List.set_cons_succ, i64_w, i32_w]
      rfl
    refine pure_ (i := 3) (N := some 6) (v := ?_) (a' := ?_) #[true, false, false, true, false, false, false, false] rfl rfl (any_of HT_.out (by kernel_rfl)) (fun _ _ _ h => h) (Or.inl ⟨by rfl, ?_⟩) ?_ ?_
    rotate_left
    · intro w'
      go_simp
      with_reducible rfl
    rotate_left
    · simp only [Act.put, List.setIfInBounds_toArray, List.set_cons_zero, List.set_cons_succ, i64_w, i32_w]
      rfl
    refine take_ (i := 1) (N := some 4) (v := ?_) (a' := ?_) #[true, true, false, true, false, false, false, false] rfl rfl (take_ofW HT_.out HW_.out (by kernel_rfl)) (fun _ _ _ h => h) (Or.inl ⟨by rfl, ?_⟩) hHeld ?_ ?_
    rotate_left
    · rintro w' ⟨s0, s1⟩
      go_simp
      with_reducible rfl
    rotate_left
    · simp only [Act.put, List.setIfInBounds_toArray, List.set_cons_zero, List.set_cons_succ, i64_w, i32_w]
      rfl
    refine take_ (i := 4) (N := some 7) (v := ?_) (a' := ?_) #[true, true, false, true, true, false, false, false] rfl rfl (take_ofW HT_.out HW_.out (by kernel_rfl)) (fun _ _ _ h => h) (Or.inl ⟨by rfl, ?_⟩) hHeld ?_ ?_
    rotate_left
    · rintro w' ⟨s0, s1⟩
      go_simp
      with_reducible rfl
    rotate_left
    · simp only [Act.put, List.setIfInBounds_toArray, List.set_cons_zero, List.set_cons_succ, i64_w, i32_w]
      rfl
    refine one_ (i := 2) (N := some 5) #[true, true, true, true, true, false, false, false] rfl rfl (one_of HT_.out (by kernel_rfl)) (by decide) (fun K hK => ?_)
    refine goes_ Try.func31 (by kernel_rfl) rfl #[.int .u64 a0_1] (by rfl) rfl rfl (by (try simp only [List.map_toArray, List.map_cons, List.map_nil]); first | done | rfl | (simp only [List.length_drop, List.length_take]; rfl)) ?_
    with_reducible refine (hornbeamref04_Digits.calls a0_1 t169 _ A2.out).mono ?_
    rintro e w7 ⟨v170, rfl, ho0, hb⟩
    refine ⟨_, rfl, ?_⟩
    have n0_ := Aside0.mk (Kd.R_lower ho0 (below_size (by repeat (first | (with_reducible first | exact HB.out | apply below_alloc | apply pw_below_drewN | apply below_drew1 | refine below_set ?_ GE168.out) | exact HB.out))))
    have n1_ := Aside0.mk (blk_below (g := gb168) (o := .cells #[.int .u64 a0_0, .int .u64 a0_1] 27 (0, 0)) (by (with_reducible repeat (first | refine blk_drewN ?_ _ | refine blk_drew ?_ | refine blk_alloc ?_ _)); exact BK168.out) hb)
    have n2_ := Aside0.mk (below_step (by repeat (first | (with_reducible first | exact HB.out | apply below_alloc | apply pw_below_drewN | apply below_drew1 | refine below_set ?_ GE168.out) | exact HB.out)) hb)
    clear BK168
    clear HB
    have HO171 := n0_
    have BK168 := n1_
    have HB := n2_
    clear n0_ n1_ n2_
    (try clear hb)
    (try clear hb2)
    (try clear hk)
    (try clear hi)
    (try clear ho0)
    refine hK.out _ _ ⟨(blk_cell BK168.out 0).trans rfl, (blk_cell BK168.out 1).trans rfl⟩ (fun hHeld => ?_)
    clear hK K
    refine norm_ (a' := ?_) ?_ ?_
    rotate_left
    · show Act.put _ (some 5) _ = _
      simp only [Act.put, List.setIfInBounds_toArray, List.set_cons_zero, List.set_cons_succ, i64_w, i32_w]
      rfl
    refine one_ (i := 5) (N := some 8) #[true, true, true, true, true, true, false, false] rfl rfl (one_of HT_.out (by kernel_rfl)) (by decide) (fun K hK => ?_)
    refine goes_ Try.func31 (by kernel_rfl) rfl #[.int .u64 a0_0] (by rfl) rfl rfl (by (try simp only [List.map_toArray, List.map_cons, List.map_nil]); first | done | rfl | (simp only [List.length_drop, List.length_take]; rfl)) ?_
    with_reducible refine (hornbeamref04_Digits.calls a0_0 t172 _ A3.out).mono ?_
    rintro e w8 ⟨v173, rfl, ho0, hb⟩
    refine ⟨_, rfl, ?_⟩
    have n0_ := Aside0.mk (Kd.R_elder' (by (with_reducible repeat (first | apply Kd.R_alloc | apply Kd.R_drewN | apply Kd.R_drew)); exact HO171.out) (Kd.R_base ho0) hb)
    have n1_ := Aside0.mk (Kd.R_lower (Kd.R_new' ho0 (Kd.R_lt (by (with_reducible repeat (first | apply Kd.R_alloc | apply Kd.R_drewN | apply Kd.R_drew)); exact HO171.out))) (below_size (by repeat (first | (with_reducible first | exact HB.out | apply below_alloc | apply pw_below_drewN | apply below_drew1 | refine below_set ?_ GE168.out) | exact HB.out))))
    have n2_ := Aside0.mk (blk_below (g := gb168) (o := .cells #[.int .u64 a0_0, .int .u64 a0_1] 27 (0, 0)) (by (with_reducible repeat (first | refine blk_drewN ?_ _ | refine blk_drew ?_ | refine blk_alloc ?_ _)); exact BK168.out) hb)
    have n3_ := Aside0.mk (below_step (by repeat (first | (with_reducible first | exact HB.out | apply below_alloc | apply pw_below_drewN | apply below_drew1 | refine below_set ?_ GE168.out) | exact HB.out)) hb)
    clear HO171
    clear BK168
    clear HB
    have HO171 := n0_
    have HO174 := n1_
    have BK168 := n2_
    have HB := n3_
    clear n0_ n1_ n2_ n3_
    (try clear hb)
    (try clear hb2)
    (try clear hk)
    (try clear hi)
    (try clear ho0)
    obtain ⟨Ao10, co10, eo10⟩ := Kd.R_slice HO174.out
    (first | subst eo10 | (injection eo10 with f1_ f2_ f3_; have f4_ := f1_.symm; have f5_ := f3_.symm; clear f1_ f2_ f3_; subst f4_; subst f5_))
    refine hK.out _ _ ⟨(blk_cell BK168.out 0).trans rfl, (blk_cell BK168.out 1).trans rfl⟩ (fun hHeld => ?_)
    clear hK K
    refine norm_ (a' := ?_) ?_ ?_
    rotate_left
    · show Act.put _ (some 8) _ = _
      simp only [Act.put, List.setIfInBounds_toArray, List.set_cons_zero, List.set_cons_succ, i64_w, i32_w]
      rfl
    refine one_ (i := 6) (N := some 9) #[true, true, true, true, true, true, true, false] rfl rfl (one_of HT_.out (by kernel_rfl)) (by decide) (fun K hK => ?_)
    refine Kd.R_append_rows_step (Kd.int .u64) (w0 := w) w.heap.size (by rfl) (.tmp 5) (.tmp 8) 47 25 (.int .u64 0) 8 rfl Try.underlying47 info25 rfl (by decide) (by omega) v170 t169 t172 _ _ _ (fun k_ => some k_ ≠ (.slice Ao10 t172.length co10 : Value).ownBlock) (fun _ => False) rfl rfl ?aO ?aR (fun _ _ h => h) (fun _ h => h.elim) ?aF ?aB ?aS ?aL ?_
    (case aR => repeat (first | exact (Kd.R_reads' HO174.out).2.2 | (with_reducible refine Kd.C_alloc ?_ _) | (with_reducible refine Kd.C_drewN ?_ _) | (with_reducible refine Kd.C_drew ?_)))
    (case aB => exact (by repeat (first | (with_reducible first | exact HB.out | apply below_alloc | apply pw_below_drewN | apply below_drew1 | refine below_set ?_ GE168.out) | exact HB.out)))
    (case aF => exact (fun k_ hk => Kd.fresh' (Kd.R_lt (by (with_reducible repeat (first | apply Kd.R_alloc | apply Kd.R_drewN | apply Kd.R_drew)); exact HO174.out)) k_ hk))
    (case aO => exact (by (with_reducible repeat (first | apply Kd.R_alloc | apply Kd.R_drewN | apply Kd.R_drew)); exact Kd.R_mono HO171.out (fun _ hk => hk.2)))
    (case aS => exact (below_size (by repeat (first | (with_reducible first | exact HB.out | apply below_alloc | apply pw_below_drewN | apply below_drew1 | refine below_set ?_ GE168.out) | exact HB.out))))
    (case aL => have := LMc4.out; omega)
    intro v176 w9 ho hb hg hat
    rw [← Ny175.out] at ho
    have n0_ := Aside0.mk (blk_grown (g := gb168) (o := .cells #[.int .u64 a0_0, .int .u64 a0_1] 27 (0, 0)) (by (with_reducible repeat (first | refine blk_drewN ?_ _ | refine blk_drew ?_ | refine blk_alloc ?_ _)); exact BK168.out) hg (Kd.R_ne HO171.out BK168.out (by decide)))
    have n1_ := Aside0.mk (Kd.R_after (ok := (fun _ => True)) (by (with_reducible repeat (first | apply Kd.R_alloc | apply Kd.R_drewN | apply Kd.R_drew)); exact HO174.out) hg hat)
    have n2_ := Aside0.mk (hb)
    have n3_ := Aside0.mk (ho)
    clear BK168
    clear HO174
    clear HB
    clear HO171
    have BK168 := n0_
    have HO174 := n1_
    have HB := n2_
    have HO177 := n3_
    clear n0_ n1_ n2_ n3_
    clear ho hb hg hat
    refine hK.out _ _ ⟨(blk_cell BK168.out 0).trans rfl, (blk_cell BK168.out 1).trans rfl⟩ (fun hHeld => ?_)
    clear hK K
    refine norm_ (a' := ?_) ?_ ?_
    rotate_left
    · show Act.put _ (some 9) _ = _
      simp only [Act.put, List.setIfInBounds_toArray, List.set_cons_zero, List.set_cons_succ, i64_w, i32_w]
      rfl
    refine pure_ (i := 7) (N := some 2) (v := ?_) (a' := ?_) #[true, true, true, true, true, true, true, true] rfl rfl (any_of HT_.out (by kernel_rfl)) (fun _ _ _ h => h) (Or.inl ⟨by rfl, ?_⟩) ?_ ?_
    rotate_left
    · intro w'
      go_simp
      with_reducible rfl
    rotate_left
    · simp only [Act.put, List.setIfInBounds_toArray, List.set_cons_zero, List.set_cons_succ, i64_w, i32_w]
      rfl
    refine done_ (done_of HT_.out (by kernel_rfl)) ?_
    try go_wp2
    go_ret
    exact ⟨_, by first | rfl | (simp [errW_none, errW_some] <;> rfl) | (simp [*, errW_none, errW_some] <;> rfl), by (with_reducible repeat (first | apply Kd.R_alloc | apply Kd.R_drewN | apply Kd.R_drew)); exact Kd.R_mono HO177.out (fun _ hk => trivial), by repeat (first | (with_reducible first | exact HB.out | apply below_alloc | apply pw_below_drewN | apply below_drew1 | refine below_set ?_ GE168.out) | exact HB.out)⟩
  · rw [if_neg c4] at H
    exact absurd H (by simp)

/-! ### hornbeamref05_Cmp: function 16 -/
def hornbeamref05_Cmp.j0 : Nat → Bool → Int → Int → Int → Int → Int → Int → Option (Int)
  | 0, _, _, _, _, _, _, _ => none
  | k + 1, x12, x179000, x179001, x179002, x180000, x180001, x180002 => if x12 = true then (some 0) else (if x179002 = 0 then (some (-1)) else (if x180002 = 0 then (some 1) else ((hornbeamref04_OfWide.f x179000 x179001).bind fun t180 => ((hornbeamref04_Digits.f x180002).bind fun t183 => ((hornbeamref04_Product.f k t180 t183).bind fun t186 => ((hornbeamref04_OfWide.f x180000 x180001).bind fun t189 => ((hornbeamref04_Digits.f x179002).bind fun t192 => ((hornbeamref04_Product.f k t189 t192).bind fun t195 => ((hornbeamref04_Compare.f k t186 t195).bind fun t198 => (some t198))))))))))
def hornbeamref05_Cmp.f (k : Nat) (a0_0 : Int) (a0_1 : Int) (a0_2 : Int) (a1_0 : Int) (a1_1 : Int) (a1_2 : Int) : Option (Int) := if a0_2 = 0 then (hornbeamref05_Cmp.j0 k (a1_2 == 0) a0_0 a0_1 a0_2 a1_0 a1_1 a1_2) else (hornbeamref05_Cmp.j0 k false a0_0 a0_1 a0_2 a1_0 a1_1 a1_2)
theorem hornbeamref05_Cmp.mono_l : ∀ k, (∀ y0 y1 y2 y3 y4 y5 y6, LeO (hornbeamref05_Cmp.j0 k y0 y1 y2 y3 y4 y5 y6) (hornbeamref05_Cmp.j0 (k + 1) y0 y1 y2 y3 y4 y5 y6))
  | 0 => fun _ _ _ _ _ _ _ r h => by simp [hornbeamref05_Cmp.j0] at h
  | k + 1 => by
    have ih0 := hornbeamref05_Cmp.mono_l k
    · intro y0 y1 y2 y3 y4 y5 y6
      unfold hornbeamref05_Cmp.j0
      repeat' first
      | (with_reducible exact ih0 _ _ _ _ _ _ _)
      | (with_reducible exact hornbeamref04_Compare.mono _ _ _)
      | (with_reducible exact hornbeamref04_Product.mono _ _ _)
      | (with_reducible exact LeO.refl _)
      | (with_reducible exact LeO.none _)
      | (with_reducible refine LeO.ite ?_ ?_)
      | (with_reducible refine LeO.bind ?_ (fun _ => ?_))
      | exact ih0 _ _ _ _ _ _ _
      | exact hornbeamref04_Compare.mono _ _ _
      | exact hornbeamref04_Product.mono _ _ _
      | exact LeO.none _
      | refine LeO.ite ?_ ?_
      | refine LeO.bind ?_ (fun _ => ?_)
theorem hornbeamref05_Cmp.mono : ∀ a0 a1 a2 a3 a4 a5 k, LeO (hornbeamref05_Cmp.f k a0 a1 a2 a3 a4 a5) (hornbeamref05_Cmp.f (k + 1) a0 a1 a2 a3 a4 a5) := by
  intro a0 a1 a2 a3 a4 a5 k
  have ih0 := hornbeamref05_Cmp.mono_l k
  unfold hornbeamref05_Cmp.f
  repeat' first
      | (with_reducible exact ih0 _ _ _ _ _ _ _)
      | (with_reducible exact hornbeamref04_Compare.mono _ _ _)
      | (with_reducible exact hornbeamref04_Product.mono _ _ _)
      | (with_reducible exact LeO.refl _)
      | (with_reducible exact LeO.none _)
      | (with_reducible refine LeO.ite ?_ ?_)
      | (with_reducible refine LeO.bind ?_ (fun _ => ?_))
      | exact ih0 _ _ _ _ _ _ _
      | exact hornbeamref04_Compare.mono _ _ _
      | exact hornbeamref04_Product.mono _ _ _
      | exact LeO.none _
      | refine LeO.ite ?_ ?_
      | refine LeO.bind ?_ (fun _ => ?_)
def hornbeamref05_Cmp.T7 : Bool × List (List Nat × List Nat) := (true, [([], []), ([0], [0]), ([1], [1]), ([], []), ([3], [3]), ([4, 2], [4]), ([2, 5, 5], [2, 5]), ([], []), ([7], [7]), ([8, 6], [8]), ([], []), ([10], [10]), ([11, 9], [11]), ([9, 12, 12], [9, 12]), ([6, 13, 13], [6, 13]), ([14, 14, 0, 1, 2, 3, 4, 5, 6, 7, 8, 9, 10, 11, 12, 13, 14], [14])])
def hornbeamref05_Cmp.B7 : List Nat := [0, 1, 3, 0, 8, 31, 63, 0, 128, 511, 0, 1024, 4095, 8191, 16383, 32767]
theorem hornbeamref05_Cmp.tab7 : rtab .any (opsOf Try.f16 7) = hornbeamref05_Cmp.T7 := by kernel_rfl
theorem hornbeamref05_Cmp.bits7 : waitsOk hornbeamref05_Cmp.T7.2 hornbeamref05_Cmp.B7 = true := by kernel_rfl
set_option maxHeartbeats 8000000 in
set_option maxRecDepth 100000 in
theorem hornbeamref05_Cmp.calls (k : Nat) (a0_0 : Int) (a0_1 : Int) (a0_2 : Int) (a1_0 : Int) (a1_1 : Int) (a1_2 : Int) (r : Int) (w : World) (h : hornbeamref05_Cmp.f k a0_0 a0_1 a0_2 a1_0 a1_1 a1_2 = some r) :
    Calls Try.prog 16 #[.agg #[.int .u64 a0_0, .int .u64 a0_1, .int .u64 a0_2], .agg #[.int .u64 a1_0, .int .u64 a1_1, .int .u64 a1_2]] w fun e w' => e = .returned (.int .i64 r) ∧ Below w.heap.size w w' := by
  have hu29 := Try.underlying29
  have hu27 := Try.underlying27
  have HB := Aside0.mk (Below.refl w.heap.size w)
  have H : (if a0_2 = 0 then (hornbeamref05_Cmp.j0 k (a1_2 == 0) a0_0 a0_1 a0_2 a1_0 a1_1 a1_2) else (hornbeamref05_Cmp.j0 k false a0_0 a0_1 a0_2 a1_0 a1_1 a1_2)) = some r := h
  clear h
  have HC3 := Aside0.mk H
  clear H
  go_enter Try.func16, Try.ntmps16
  go_upto_region 1 with (first | ((with_reducible refine gate_dst (N := 2) rfl ?_); refine box_event ?hg (N := 2) ?hd (cs := #[.int .u64 a0_0, .int .u64 a0_1, .int .u64 a0_2]) (t := 29) ?hr ?_; (case hd => rfl); (case hg => rfl); (case hr => first | (go_simp; done) | (go_simp; rfl)); intro gb178 hg w4 hbox hb; have n0_ := Aside0.mk (below_step (by repeat (first | (with_reducible first | exact HB.out | apply below_alloc | apply pw_below_drewN | apply below_drew1) | exact HB.out)) hb); have n1_ := Aside0.mk (hbox); have n2_ := Aside0.mk ((by rw [hg]; exact (below_size (by repeat (first | (with_reducible first | exact HB.out | apply below_alloc | apply pw_below_drewN | apply below_drew1) | exact HB.out))) : w.heap.size ≤ gb178)); have n3_ := Aside0.mk ((by rw [hg]; exact (below_size (by repeat (first | (with_reducible first | exact HB.out | apply below_alloc | apply pw_below_drewN | apply below_drew1) | exact HB.out))) : w.heap.size ≤ gb178)); clear HB; have HB := n0_; have BK178 := n1_; have GW178 := n2_; have GE178 := n3_; clear n0_ n1_ n2_ n3_; clear hb hbox hg) | ((with_reducible refine gate_dst (N := 3) rfl ?_); refine box_event ?hg (N := 3) ?hd (cs := #[.int .u64 a1_0, .int .u64 a1_1, .int .u64 a1_2]) (t := 29) ?hr ?_; (case hd => rfl); (case hg => rfl); (case hr => first | (go_simp; done) | (go_simp; rfl)); intro gb179 hg w5 hbox hb; have n0_ := Aside0.mk (blk_below (g := gb178) (o := .cells #[.int .u64 a0_0, .int .u64 a0_1, .int .u64 a0_2] 29 (0, 0)) (by (with_reducible repeat (first | refine blk_drewN ?_ _ | refine blk_drew ?_ | refine blk_alloc ?_ _)); exact BK178.out) hb); have n1_ := Aside0.mk (below_step (by repeat (first | (with_reducible first | exact HB.out | apply below_alloc | apply pw_below_drewN | apply below_drew1 | refine below_set ?_ GE178.out) | exact HB.out)) hb); have n2_ := Aside0.mk (hbox); have n3_ := Aside0.mk ((by rw [hg]; exact (below_size (by repeat (first | (with_reducible first | exact HB.out | apply below_alloc | apply pw_below_drewN | apply below_drew1 | refine below_set ?_ GE178.out) | exact HB.out))) : w.heap.size ≤ gb179)); have n4_ := Aside0.mk ((by rw [hg]; exact (below_size (by repeat (first | (with_reducible first | exact HB.out | apply below_alloc | apply pw_below_drewN | apply below_drew1 | refine below_set ?_ GE178.out) | exact HB.out))) : w.heap.size ≤ gb179)); have n5_ := Aside0.mk ((by rw [hg]; exact Nat.ne_of_lt (blk_lt (g := gb178) (o := .cells #[.int .u64 a0_0, .int .u64 a0_1, .int .u64 a0_2] 29 (0, 0)) (by (with_reducible repeat (first | refine blk_drewN ?_ _ | refine blk_drew ?_ | refine blk_alloc ?_ _)); exact BK178.out)) : gb178 ≠ gb179)); have n6_ := Aside0.mk ((by rw [hg]; exact Nat.ne_of_gt (blk_lt (g := gb178) (o := .cells #[.int .u64 a0_0, .int .u64 a0_1, .int .u64 a0_2] 29 (0, 0)) (by (with_reducible repeat (first | refine blk_drewN ?_ _ | refine blk_drew ?_ | refine blk_alloc ?_ _)); exact BK178.out)) : gb179 ≠ gb178)); clear BK178; clear HB; have BK178 := n0_; have HB := n1_; have BK179 := n2_; have GW179 := n3_; have GE179 := n4_; have NB178_179 := n5_; have NB179_178 := n6_; clear n0_ n1_ n2_ n3_ n4_ n5_ n6_; clear hb hbox hg))
  (try simp only [Act.put, List.setIfInBounds_toArray, List.set_cons_zero, List.set_cons_succ])
  go_cut [12] (fun v12 wc => ∃ (kq : Nat) (x12_2 : Bool), v12 = .bool x12_2 ∧ Aside0 (hornbeamref05_Cmp.j0 kq x12_2 a0_0 a0_1 a0_2 a1_0 a1_1 a1_2 = some r) ∧ Aside0 (kq ≤ k) ∧ Aside0 (wc.heap[gb178]? = some (.cells #[.int .u64 a0_0, .int .u64 a0_1, .int .u64 a0_2] 29 (0, 0))) ∧ Aside0 (wc.heap[gb179]? = some (.cells #[.int .u64 a1_0, .int .u64 a1_1, .int .u64 a1_2] 29 (0, 0))) ∧ Aside0 (Below w.heap.size w wc))
  case first =>
    have H := HC3.out
    clear HC3
    by_cases c6 : a0_2 = 0
    · rw [if_pos c6] at H
      have c6b0 : (a0_2 == 0) = true := beq_iff_eq.mpr c6
      have c6b1 : (a0_2 != 0) = false := bne_eq_false_iff_eq.mpr c6
      clear c6
      (first | rw [c6b0] | (simp only [i64_w, i32_w]; rw [c6b0]) | skip)
      have H' := Aside0.mk H
      clear H
      have hnb7 := NB178_179.out
      have hnc7 := NB179_178.out
      have hcz8_0 : w5.cell? ⟨gb178, 0, none⟩ = some (.int .u64 a0_0) := (blk_cell BK178.out 0).trans rfl
      have hcz8_1 : w5.cell? ⟨gb178, 1, none⟩ = some (.int .u64 a0_1) := (blk_cell BK178.out 1).trans rfl
      have hcz8_2 : w5.cell? ⟨gb178, 2, none⟩ = some (.int .u64 a0_2) := (blk_cell BK178.out 2).trans rfl
      have hfz8_0 := blk_frozen BK178.out 0
      have hfz8_1 := blk_frozen BK178.out 1
      have hfz8_2 := blk_frozen BK178.out 2
      have hcz9_0 : w5.cell? ⟨gb179, 0, none⟩ = some (.int .u64 a1_0) := (blk_cell BK179.out 0).trans rfl
      have hcz9_1 : w5.cell? ⟨gb179, 1, none⟩ = some (.int .u64 a1_1) := (blk_cell BK179.out 1).trans rfl
      have hcz9_2 : w5.cell? ⟨gb179, 2, none⟩ = some (.int .u64 a1_2) := (blk_cell BK179.out 2).trans rfl
      have hfz9_0 := blk_frozen BK179.out 0
      have hfz9_1 := blk_frozen BK179.out 1
      have hfz9_2 := blk_frozen BK179.out 2
      go_wp2
      go_meet
      case rel => exact ⟨_, ((a1_2 == 0)), (by first | rfl | (simp; done) | (simp [*]; done)), H', ⟨by first | omega | exact Nat.le_refl _⟩, ⟨by (with_reducible repeat (first | refine blk_drewN ?_ _ | refine blk_drew ?_ | refine blk_alloc ?_ _)); exact BK178.out⟩, ⟨by (with_reducible repeat (first | refine blk_drewN ?_ _ | refine blk_drew ?_ | refine blk_alloc ?_ _)); exact BK179.out⟩, ⟨by repeat (first | (with_reducible first | exact HB.out | apply below_alloc | apply pw_below_drewN | apply below_drew1 | refine below_set ?_ GE178.out | refine below_set ?_ GE179.out) | exact HB.out)⟩⟩
    · rw [if_neg c6] at H
      have c6b0 : (a0_2 == 0) = false := beq_eq_false_iff_ne.mpr c6
      have c6b1 : (a0_2 != 0) = true := bne_iff_ne.mpr c6
      (first | rw [c6b0] | (simp only [i64_w, i32_w]; rw [c6b0]) | skip)
      have H' := Aside0.mk H
      clear H
      have hnb10 := NB178_179.out
      have hnc10 := NB179_178.out
      have hcz11_0 : w5.cell? ⟨gb178, 0, none⟩ = some (.int .u64 a0_0) := (blk_cell BK178.out 0).trans rfl
      have hcz11_1 : w5.cell? ⟨gb178, 1, none⟩ = some (.int .u64 a0_1) := (blk_cell BK178.out 1).trans rfl
      have hcz11_2 : w5.cell? ⟨gb178, 2, none⟩ = some (.int .u64 a0_2) := (blk_cell BK178.out 2).trans rfl
      have hfz11_0 := blk_frozen BK178.out 0
      have hfz11_1 := blk_frozen BK178.out 1
      have hfz11_2 := blk_frozen BK178.out 2
      go_wp2
      go_meet
      case rel => exact ⟨_, (false), (by first | rfl | (simp; done) | (simp [*]; done)), H', ⟨by first | omega | exact Nat.le_refl _⟩, ⟨by (with_reducible repeat (first | refine blk_drewN ?_ _ | refine blk_drew ?_ | refine blk_alloc ?_ _)); exact BK178.out⟩, ⟨by (with_reducible repeat (first | refine blk_drewN ?_ _ | refine blk_drew ?_ | refine blk_alloc ?_ _)); exact BK179.out⟩, ⟨by repeat (first | (with_reducible first | exact HB.out | apply below_alloc | apply pw_below_drewN | apply below_drew1 | refine below_set ?_ GE178.out | refine below_set ?_ GE179.out) | exact HB.out)⟩⟩
  case rest =>
    clear HC3
    try clear c1
    try clear p2
    try clear c6
    try clear c6b0
    try clear c6b1
    try clear c7
    try clear c10
    try clear hcz11_0
    try clear hcz11_1
    try clear hcz11_2
    try clear hcz8_0
    try clear hcz8_1
    try clear hcz8_2
    try clear hcz9_0
    try clear hcz9_1
    try clear hcz9_2
    try clear hfz11_0
    try clear hfz11_1
    try clear hfz11_2
    try clear hfz8_0
    try clear hfz8_1
    try clear hfz8_2
    try clear hfz9_0
    try clear hfz9_1
    try clear hfz9_2
    obtain ⟨kq, x12_2, rfl, HA, HJ2, BK178, BK179, HB⟩ := hcut
    cases kq with
    | zero => exact absurd HA.out (by simp [hornbeamref05_Cmp.j0])
    | succ kj2 =>
      have H := HA.out
      clear HA
      simp only [hornbeamref05_Cmp.j0] at H
      by_cases c12 : x12_2 = true
      · subst c12
        have H1 : (some 0) = some r := by rw [if_pos rfl] at H; exact H
        clear H
        have H := H1
        clear H1
        obtain rfl := Option.some.inj H
        go_wp2
        all_goals (go_ret; exact ⟨by first | rfl | (simp [errW_none, errW_some] <;> rfl) | (simp [*, errW_none, errW_some] <;> rfl) | (simp_all; done), by repeat (first | (with_reducible first | exact HB.out | apply below_alloc | apply pw_below_drewN | apply below_drew1 | refine below_set ?_ GE178.out | refine below_set ?_ GE179.out) | exact HB.out)⟩)
      · replace c12 := Bool.eq_false_iff.mpr c12
        subst c12
        have H1 : (if a0_2 = 0 then (some (-1)) else (if a1_2 = 0 then (some 1) else ((hornbeamref04_OfWide.f a0_0 a0_1).bind fun t180 => ((hornbeamref04_Digits.f a1_2).bind fun t183 => ((hornbeamref04_Product.f kj2 t180 t183).bind fun t186 => ((hornbeamref04_OfWide.f a1_0 a1_1).bind fun t189 => ((hornbeamref04_Digits.f a0_2).bind fun t192 => ((hornbeamref04_Product.f kj2 t189 t192).bind fun t195 => ((hornbeamref04_Compare.f kj2 t186 t195).bind fun t198 => (some t198)))))))))) = some r := by rw [if_neg (show ¬ (false = true) by decide)] at H; exact H
        clear H
        have H := H1
        clear H1
        by_cases c13 : a0_2 = 0
        · rw [if_pos c13] at H
          have c13b0 : (a0_2 == 0) = true := beq_iff_eq.mpr c13
          have c13b1 : (a0_2 != 0) = false := bne_eq_false_iff_eq.mpr c13
          clear c13
          obtain rfl := Option.some.inj H
          have hnb14 := NB178_179.out
          have hnc14 := NB179_178.out
          have hcz15_0 : wc.cell? ⟨gb178, 0, none⟩ = some (.int .u64 a0_0) := (blk_cell BK178.out 0).trans rfl
          have hcz15_1 : wc.cell? ⟨gb178, 1, none⟩ = some (.int .u64 a0_1) := (blk_cell BK178.out 1).trans rfl
          have hcz15_2 : wc.cell? ⟨gb178, 2, none⟩ = some (.int .u64 a0_2) := (blk_cell BK178.out 2).trans rfl
          have hfz15_0 := blk_frozen BK178.out 0
          have hfz15_1 := blk_frozen BK178.out 1
          have hfz15_2 := blk_frozen BK178.out 2
          go_wp2
          all_goals (go_ret; exact ⟨by first | rfl | (simp [errW_none, errW_some] <;> rfl) | (simp [*, errW_none, errW_some] <;> rfl) | (simp_all; done), by repeat (first | (with_reducible first | exact HB.out | apply below_alloc | apply pw_below_drewN | apply below_drew1 | refine below_set ?_ GE178.out | refine below_set ?_ GE179.out) | exact HB.out)⟩)
        · rw [if_neg c13] at H
          have c13b0 : (a0_2 == 0) = false := beq_eq_false_iff_ne.mpr c13
          have c13b1 : (a0_2 != 0) = true := bne_iff_ne.mpr c13
          by_cases c16 : a1_2 = 0
          · rw [if_pos c16] at H
            have c16b0 : (a1_2 == 0) = true := beq_iff_eq.mpr c16
            have c16b1 : (a1_2 != 0) = false := bne_eq_false_iff_eq.mpr c16
            clear c16
            obtain rfl := Option.some.inj H
            have hnb17 := NB178_179.out
            have hnc17 := NB179_178.out
            have hcz18_0 : wc.cell? ⟨gb178, 0, none⟩ = some (.int .u64 a0_0) := (blk_cell BK178.out 0).trans rfl
            have hcz18_1 : wc.cell? ⟨gb178, 1, none⟩ = some (.int .u64 a0_1) := (blk_cell BK178.out 1).trans rfl
            have hcz18_2 : wc.cell? ⟨gb178, 2, none⟩ = some (.int .u64 a0_2) := (blk_cell BK178.out 2).trans rfl
            have hfz18_0 := blk_frozen BK178.out 0
            have hfz18_1 := blk_frozen BK178.out 1
            have hfz18_2 := blk_frozen BK178.out 2
            have hcz19_0 : wc.cell? ⟨gb179, 0, none⟩ = some (.int .u64 a1_0) := (blk_cell BK179.out 0).trans rfl
            have hcz19_1 : wc.cell? ⟨gb179, 1, none⟩ = some (.int .u64 a1_1) := (blk_cell BK179.out 1).trans rfl
            have hcz19_2 : wc.cell? ⟨gb179, 2, none⟩ = some (.int .u64 a1_2) := (blk_cell BK179.out 2).trans rfl
            have hfz19_0 := blk_frozen BK179.out 0
            have hfz19_1 := blk_frozen BK179.out 1
            have hfz19_2 := blk_frozen BK179.out 2
            go_wp2
            all_goals (go_ret; exact ⟨by first | rfl | (simp [errW_none, errW_some] <;> rfl) | (simp [*, errW_none, errW_some] <;> rfl) | (simp_all; done), by repeat (first | (with_reducible first | exact HB.out | apply below_alloc | apply pw_below_drewN | apply below_drew1 | refine below_set ?_ GE178.out | refine below_set ?_ GE179.out) | exact HB.out)⟩)
          · rw [if_neg c16] at H
            have c16b0 : (a1_2 == 0) = false := beq_eq_false_iff_ne.mpr c16
            have c16b1 : (a1_2 != 0) = true := bne_iff_ne.mpr c16
            replace H := Option.bind_eq_some_iff.mp H
            obtain ⟨t180, A200, H⟩ := H
            replace H : ((hornbeamref04_Digits.f a1_2).bind fun t183 => ((hornbeamref04_Product.f kj2 t180 t183).bind fun t186 => ((hornbeamref04_OfWide.f a1_0 a1_1).bind fun t189 => ((hornbeamref04_Digits.f a0_2).bind fun t192 => ((hornbeamref04_Product.f kj2 t189 t192).bind fun t195 => ((hornbeamref04_Compare.f kj2 t186 t195).bind fun t198 => (some t198))))))) = some r := H
            have A20 := Aside0.mk A200
            clear A200
            replace H := Option.bind_eq_some_iff.mp H
            obtain ⟨t183, A210, H⟩ := H
            replace H : ((hornbeamref04_Product.f kj2 t180 t183).bind fun t186 => ((hornbeamref04_OfWide.f a1_0 a1_1).bind fun t189 => ((hornbeamref04_Digits.f a0_2).bind fun t192 => ((hornbeamref04_Product.f kj2 t189 t192).bind fun t195 => ((hornbeamref04_Compare.f kj2 t186 t195).bind fun t198 => (some t198)))))) = some r := H
            have A21 := Aside0.mk A210
            clear A210
            replace H := Option.bind_eq_some_iff.mp H
            obtain ⟨t186, A220, H⟩ := H
            replace H : ((hornbeamref04_OfWide.f a1_0 a1_1).bind fun t189 => ((hornbeamref04_Digits.f a0_2).bind fun t192 => ((hornbeamref04_Product.f kj2 t189 t192).bind fun t195 => ((hornbeamref04_Compare.f kj2 t186 t195).bind fun t198 => (some t198))))) = some r := H
            have A22 := Aside0.mk A220
            clear A220
            replace H := Option.bind_eq_some_iff.mp H
            obtain ⟨t189, A230, H⟩ := H
            replace H : ((hornbeamref04_Digits.f a0_2).bind fun t192 => ((hornbeamref04_Product.f kj2 t189 t192).bind fun t195 => ((hornbeamref04_Compare.f kj2 t186 t195).bind fun t198 => (some t198)))) = some r := H
            have A23 := Aside0.mk A230
            clear A230
            replace H := Option.bind_eq_some_iff.mp H
            obtain ⟨t192, A240, H⟩ := H
            replace H : ((hornbeamref04_Product.f kj2 t189 t192).bind fun t195 => ((hornbeamref04_Compare.f kj2 t186 t195).bind fun t198 => (some t198))) = some r := H
            have A24 := Aside0.mk A240
            clear A240
            replace H := Option.bind_eq_some_iff.mp H
            obtain ⟨t195, A250, H⟩ := H
            replace H : ((hornbeamref04_Compare.f kj2 t186 t195).bind fun t198 => (some t198)) = some r := H
            have A25 := Aside0.mk A250
            clear A250
            replace H := Option.bind_eq_some_iff.mp H
            obtain ⟨t198, A260, H⟩ := H
            replace H : (some t198) = some r := H
            have A26 := Aside0.mk A260
            clear A260
            obtain rfl := Option.some.inj H
            have hnb27 := NB178_179.out
            have hnc27 := NB179_178.out
            have hcz28_0 : wc.cell? ⟨gb178, 0, none⟩ = some (.int .u64 a0_0) := (blk_cell BK178.out 0).trans rfl
            have hcz28_1 : wc.cell? ⟨gb178, 1, none⟩ = some (.int .u64 a0_1) := (blk_cell BK178.out 1).trans rfl
            have hcz28_2 : wc.cell? ⟨gb178, 2, none⟩ = some (.int .u64 a0_2) := (blk_cell BK178.out 2).trans rfl
            have hfz28_0 := blk_frozen BK178.out 0
            have hfz28_1 := blk_frozen BK178.out 1
            have hfz28_2 := blk_frozen BK178.out 2
            have hcz29_0 : wc.cell? ⟨gb179, 0, none⟩ = some (.int .u64 a1_0) := (blk_cell BK179.out 0).trans rfl
            have hcz29_1 : wc.cell? ⟨gb179, 1, none⟩ = some (.int .u64 a1_1) := (blk_cell BK179.out 1).trans rfl
            have hcz29_2 : wc.cell? ⟨gb179, 2, none⟩ = some (.int .u64 a1_2) := (blk_cell BK179.out 2).trans rfl
            have hfz29_0 := blk_frozen BK179.out 0
            have hfz29_1 := blk_frozen BK179.out 1
            have hfz29_2 := blk_frozen BK179.out 2
            try go_wp2
            have n0_ := Aside0.mk (blk_drew BK178.out)
            have n1_ := Aside0.mk (blk_drew BK179.out)
            have n2_ := Aside0.mk (below_drew1 HB.out)
            clear BK178
            clear BK179
            clear HB
            have BK178 := n0_
            have BK179 := n1_
            have HB := n2_
            clear n0_ n1_ n2_
            refine start_ (n := 16) (S := fun w' => w'.cell? ⟨gb178, 0, none⟩ = some (.int .u64 a0_0) ∧ w'.cell? ⟨gb178, 1, none⟩ = some (.int .u64 a0_1) ∧ w'.cell? ⟨gb178, 2, none⟩ = some (.int .u64 a0_2) ∧ w'.cell? ⟨gb179, 0, none⟩ = some (.int .u64 a1_0) ∧ w'.cell? ⟨gb179, 1, none⟩ = some (.int .u64 a1_1) ∧ w'.cell? ⟨gb179, 2, none⟩ = some (.int .u64 a1_2)) (ds := []) #[false, false, false, false, false, false, false, false, false, false, false, false, false, false, false, false] (by kernel_rfl) rfl rfl ⟨(blk_cell BK178.out 0).trans rfl, (blk_cell BK178.out 1).trans rfl, (blk_cell BK178.out 2).trans rfl, (blk_cell BK179.out 0).trans rfl, (blk_cell BK179.out 1).trans rfl, (blk_cell BK179.out 2).trans rfl⟩ (fun hHeld => ?_); refine with_tabW hornbeamref05_Cmp.tab7 hornbeamref05_Cmp.bits7 (fun HT_ HW_ => ?_)
            generalize wc.drew = w30 at BK178 BK179 HB hHeld ⊢
            refine pure_ (i := 0) (N := some 19) (v := ?_) (a' := ?_) #[true, false, false, false, false, false, false, false, false, false, false, false, false, false, false, false] rfl rfl (any_of HT_.out (by kernel_rfl)) (fun _ _ _ h => h) (Or.inl ⟨by rfl, ?_⟩) ?_ ?_
            rotate_left
            · intro w'
              go_simp
              with_reducible rfl
            rotate_left
            · simp only [Act.put, List.setIfInBounds_toArray, List.set_cons_zero, List.set_cons_succ, i64_w, i32_w]
              rfl
            refine pure_ (i := 3) (N := some 22) (v := ?_) (a' := ?_) #[true, false, false, true, false, false, false, false, false, false, false, false, false, false, false, false] rfl rfl (any_of HT_.out (by kernel_rfl)) (fun _ _ _ h => h) (Or.inl ⟨by rfl, ?_⟩) ?_ ?_
            rotate_left
            · intro w'
              go_simp
              with_reducible rfl
            rotate_left
            · simp only [Act.put, List.setIfInBounds_toArray, List.set_cons_zero, List.set_cons_succ, i64_w, i32_w]
              rfl
            refine pure_ (i := 7) (N := some 26) (v := ?_) (a' := ?_) #[true, false, false, true, false, false, false, true, false, false, false, false, false, false, false, false] rfl rfl (any_of HT_.out (by kernel_rfl)) (fun _ _ _ h => h) (Or.inl ⟨by rfl, ?_⟩) ?_ ?_
            rotate_left
            · intro w'
              go_simp
              with_reducible rfl
            rotate_left
            · simp only [Act.put, List.setIfInBounds_toArray, List.set_cons_zero, List.set_cons_succ, i64_w, i32_w]
              rfl
            refine pure_ (i := 10) (N := some 29) (v := ?_) (a' := ?_) #[true, false, false, true, false, false, false, true, false, false, true, false, false, false, false, false] rfl rfl (any_of HT_.out (by kernel_rfl)) (fun _ _ _ h => h) (Or.inl ⟨by rfl, ?_⟩) ?_ ?_
            rotate_left
            · intro w'
              go_simp
              with_reducible rfl
            rotate_left
            · simp only [Act.put, List.setIfInBounds_toArray, List.set_cons_zero, List.set_cons_succ, i64_w, i32_w]
              rfl
            refine take_ (i := 1) (N := some 20) (v := ?_) (a' := ?_) #[true, true, false, true, false, false, false, true, false, false, true, false, false, false, false, false] rfl rfl (take_ofW HT_.out HW_.out (by kernel_rfl)) (fun _ _ _ h => h) (Or.inl ⟨by rfl, ?_⟩) hHeld ?_ ?_
            rotate_left
            · rintro w' ⟨s0, s1, s2, s3, s4, s5⟩
              go_simp
              with_reducible rfl
            rotate_left
            · simp only [Act.put, List.setIfInBounds_toArray, List.set_cons_zero, List.set_cons_succ, i64_w, i32_w]
              rfl
            refine take_ (i := 4) (N := some 23) (v := ?_) (a' := ?_) #[true, true, false, true, true, false, false, true, false, false, true, false, false, false, false, false] rfl rfl (take_ofW HT_.out HW_.out (by kernel_rfl)) (fun _ _ _ h => h) (Or.inl ⟨by rfl, ?_⟩) hHeld ?_ ?_
            rotate_left
            · rintro w' ⟨s0, s1, s2, s3, s4, s5⟩
              go_simp
              with_reducible rfl
            rotate_left
            · simp only [Act.put, List.setIfInBounds_toArray, List.set_cons_zero, List.set_cons_succ, i64_w, i32_w]
              rfl
            refine take_ (i := 8) (N := some 27) (v := ?_) (a' := ?_) #[true, true, false, true, true, false, false, true, true, false, true, false, false, false, false, false] rfl rfl (take_ofW HT_.out HW_.out (by kernel_rfl)) (fun _ _ _ h => h) (Or.inl ⟨by rfl, ?_⟩) hHeld ?_ ?_
            rotate_left
            · rintro w' ⟨s0, s1, s2, s3, s4, s5⟩
              go_simp
              with_reducible rfl
            rotate_left
            · simp only [Act.put, List.setIfInBounds_toArray, List.set_cons_zero, List.set_cons_succ, i64_w, i32_w]
              rfl
            refine take_ (i := 11) (N := some 30) (v := ?_) (a' := ?_) #[true, true, false, true, true, false, false, true, true, false, true, true, false, false, false, false] rfl rfl (take_ofW HT_.out HW_.out (by kernel_rfl)) (fun _ _ _ h => h) (Or.inl ⟨by rfl, ?_⟩) hHeld ?_ ?_
            rotate_left
            · rintro w' ⟨s0, s1, s2, s3, s4, s5⟩
              go_simp
              with_reducible rfl
            rotate_left
            · simp only [Act.put, List.setIfInBounds_toArray, List.set_cons_zero, List.set_cons_succ, i64_w, i32_w]
              rfl
            refine one_ (i := 2) (N := some 21) #[true, true, true, true, true, false, false, true, true, false, true, true, false, false, false, false] rfl rfl (one_of HT_.out (by kernel_rfl)) (by decide) (fun K hK => ?_)
            refine goes_ Try.func30 (by kernel_rfl) rfl #[.agg #[.int .u64 a0_0, .int .u64 a0_1]] (by rfl) rfl rfl (by (try simp only [List.map_toArray, List.map_cons, List.map_nil]); first | done | rfl | (simp only [List.length_drop, List.length_take]; rfl)) ?_
            with_reducible refine (hornbeamref04_OfWide.calls a0_0 a0_1 t180 _ A20.out).mono ?_
            rintro e w31 ⟨v181, rfl, ho0, hb⟩
            refine ⟨_, rfl, ?_⟩
            have n0_ := Aside0.mk (Kd.R_lower ho0 (below_size (by repeat (first | (with_reducible first | exact HB.out | apply below_alloc | apply pw_below_drewN | apply below_drew1 | refine below_set ?_ GE178.out | refine below_set ?_ GE179.out) | exact HB.out))))
            have n1_ := Aside0.mk (blk_below (g := gb178) (o := .cells #[.int .u64 a0_0, .int .u64 a0_1, .int .u64 a0_2] 29 (0, 0)) (by (with_reducible repeat (first | refine blk_drewN ?_ _ | refine blk_drew ?_ | refine blk_alloc ?_ _)); exact BK178.out) hb)
            have n2_ := Aside0.mk (blk_below (g := gb179) (o := .cells #[.int .u64 a1_0, .int .u64 a1_1, .int .u64 a1_2] 29 (0, 0)) (by (with_reducible repeat (first | refine blk_drewN ?_ _ | refine blk_drew ?_ | refine blk_alloc ?_ _)); exact BK179.out) hb)
            have n3_ := Aside0.mk (below_step (by repeat (first | (with_reducible first | exact HB.out | apply below_alloc | apply pw_below_drewN | apply below_drew1 | refine below_set ?_ GE178.out | refine below_set ?_ GE179.out) | exact HB.out)) hb)
            clear BK178
            clear BK179
            clear HB
            have HO182 := n0_
            have BK178 := n1_
            have BK179 := n2_
            have HB := n3_
            clear n0_ n1_ n2_ n3_
            (try clear hb)
            (try clear hb2)
            (try clear hk)
            (try clear hi)
            (try clear ho0)
            refine hK.out _ _ ⟨(blk_cell BK178.out 0).trans rfl, (blk_cell BK178.out 1).trans rfl, (blk_cell BK178.out 2).trans rfl, (blk_cell BK179.out 0).trans rfl, (blk_cell BK179.out 1).trans rfl, (blk_cell BK179.out 2).trans rfl⟩ (fun hHeld => ?_)
            clear hK K
            refine norm_ (a' := ?_) ?_ ?_
            rotate_left
            · show Act.put _ (some 21) _ = _
              simp only [Act.put, List.setIfInBounds_toArray, List.set_cons_zero, List.set_cons_succ, i64_w, i32_w]
              rfl
            refine one_ (i := 5) (N := some 24) #[true, true, true, true, true, true, false, true, true, false, true, true, false, false, false, false] rfl rfl (one_of HT_.out (by kernel_rfl)) (by decide) (fun K hK => ?_)
            refine goes_ Try.func31 (by kernel_rfl) rfl #[.int .u64 a1_2] (by rfl) rfl rfl (by (try simp only [List.map_toArray, List.map_cons, List.map_nil]); first | done | rfl | (simp only [List.length_drop, List.length_take]; rfl)) ?_
            with_reducible refine (hornbeamref04_Digits.calls a1_2 t183 _ A21.out).mono ?_
            rintro e w32 ⟨v184, rfl, ho0, hb⟩
            refine ⟨_, rfl, ?_⟩
            have n0_ := Aside0.mk (Kd.R_elder' (by (with_reducible repeat (first | apply Kd.R_alloc | apply Kd.R_drewN | apply Kd.R_drew)); exact HO182.out) (Kd.R_base ho0) hb)
            have n1_ := Aside0.mk (Kd.R_lower (Kd.R_new' ho0 (Kd.R_lt (by (with_reducible repeat (first | apply Kd.R_alloc | apply Kd.R_drewN | apply Kd.R_drew)); exact HO182.out))) (below_size (by repeat (first | (with_reducible first | exact HB.out | apply below_alloc | apply pw_below_drewN | apply below_drew1 | refine below_set ?_ GE178.out | refine below_set ?_ GE179.out) | exact HB.out))))
            have n2_ := Aside0.mk (blk_below (g := gb178) (o := .cells #[.int .u64 a0_0, .int .u64 a0_1, .int .u64 a0_2] 29 (0, 0)) (by (with_reducible repeat (first | refine blk_drewN ?_ _ | refine blk_drew ?_ | refine blk_alloc ?_ _)); exact BK178.out) hb)
            have n3_ := Aside0.mk (blk_below (g := gb179) (o := .cells #[.int .u64 a1_0, .int .u64 a1_1, .int .u64 a1_2] 29 (0, 0)) (by (with_reducible repeat (first | refine blk_drewN ?_ _ | refine blk_drew ?_ | refine blk_alloc ?_ _)); exact BK179.out) hb)
            have n4_ := Aside0.mk (below_step (by repeat (first | (with_reducible first | exact HB.out | apply below_alloc | apply pw_below_drewN | apply below_drew1 | refine below_set ?_ GE178.out | refine below_set ?_ GE179.out) | exact HB.out)) hb)
            clear HO182
            clear BK178
            clear BK179
            clear HB
            have HO182 := n0_
            have HO185 := n1_
            have BK178 := n2_
            have BK179 := n3_
            have HB := n4_
            clear n0_ n1_ n2_ n3_ n4_
            (try clear hb)
            (try clear hb2)
            (try clear hk)
            (try clear hi)
            (try clear ho0)
            obtain ⟨Ao33, co33, eo33⟩ := Kd.R_slice HO182.out
            (first | subst eo33 | (injection eo33 with f1_ f2_ f3_; have f4_ := f1_.symm; have f5_ := f3_.symm; clear f1_ f2_ f3_; subst f4_; subst f5_))
            obtain ⟨Ao34, co34, eo34⟩ := Kd.R_slice HO185.out
            (first | subst eo34 | (injection eo34 with f1_ f2_ f3_; have f4_ := f1_.symm; have f5_ := f3_.symm; clear f1_ f2_ f3_; subst f4_; subst f5_))
            refine hK.out _ _ ⟨(blk_cell BK178.out 0).trans rfl, (blk_cell BK178.out 1).trans rfl, (blk_cell BK178.out 2).trans rfl, (blk_cell BK179.out 0).trans rfl, (blk_cell BK179.out 1).trans rfl, (blk_cell BK179.out 2).trans rfl⟩ (fun hHeld => ?_)
            clear hK K
            refine norm_ (a' := ?_) ?_ ?_
            rotate_left
            · show Act.put _ (some 24) _ = _
              simp only [Act.put, List.setIfInBounds_toArray, List.set_cons_zero, List.set_cons_succ, i64_w, i32_w]
              rfl
            refine one_ (i := 6) (N := some 25) #[true, true, true, true, true, true, true, true, true, false, true, true, false, false, false, false] rfl rfl (one_of HT_.out (by kernel_rfl)) (by decide) (fun K hK => ?_)
            refine goes_ Try.func29 (by kernel_rfl) rfl #[.slice Ao33 t180.length co33, .slice Ao34 t183.length co34] (by rfl) rfl rfl (by (try simp only [List.map_toArray, List.map_cons, List.map_nil]); first | done | rfl | (simp only [List.length_drop, List.length_take]; rfl)) ?_
            with_reducible refine (hornbeamref04_Product.calls kj2 _ _ t180 _ _ t183 t186 _ ?side1 ?side2 ?side3 ?side4 A22.out).mono ?_
            (case side1 => repeat (first | exact (Kd.R_reads' HO182.out).2.2 | (with_reducible refine Kd.C_alloc ?_ _) | (with_reducible refine Kd.C_drewN ?_ _) | (with_reducible refine Kd.C_drew ?_)))
            (case side2 => exact (Kd.R_reads' HO182.out).2.1)
            (case side3 => repeat (first | exact (Kd.R_reads' HO185.out).2.2 | (with_reducible refine Kd.C_alloc ?_ _) | (with_reducible refine Kd.C_drewN ?_ _) | (with_reducible refine Kd.C_drew ?_)))
            (case side4 => exact (Kd.R_reads' HO185.out).2.1)
            rintro e w35 ⟨v187, rfl, ho0, hb⟩
            refine ⟨_, rfl, ?_⟩
            have n0_ := Aside0.mk (Kd.R_elder' (by (with_reducible repeat (first | apply Kd.R_alloc | apply Kd.R_drewN | apply Kd.R_drew)); exact HO182.out) (Kd.R_base ho0) hb)
            have n1_ := Aside0.mk (Kd.R_elder' (by (with_reducible repeat (first | apply Kd.R_alloc | apply Kd.R_drewN | apply Kd.R_drew)); exact HO185.out) (Kd.R_base ho0) hb)
            have n2_ := Aside0.mk (Kd.R_lower (Kd.R_new' (Kd.R_new' ho0 (Kd.R_lt (by (with_reducible repeat (first | apply Kd.R_alloc | apply Kd.R_drewN | apply Kd.R_drew)); exact HO182.out))) (Kd.R_lt (by (with_reducible repeat (first | apply Kd.R_alloc | apply Kd.R_drewN | apply Kd.R_drew)); exact HO185.out))) (below_size (by repeat (first | (with_reducible first | exact HB.out | apply below_alloc | apply pw_below_drewN | apply below_drew1 | refine below_set ?_ GE178.out | refine below_set ?_ GE179.out) | exact HB.out))))
            have n3_ := Aside0.mk (blk_below (g := gb178) (o := .cells #[.int .u64 a0_0, .int .u64 a0_1, .int .u64 a0_2] 29 (0, 0)) (by (with_reducible repeat (first | refine blk_drewN ?_ _ | refine blk_drew ?_ | refine blk_alloc ?_ _)); exact BK178.out) hb)
            have n4_ := Aside0.mk (blk_below (g := gb179) (o := .cells #[.int .u64 a1_0, .int .u64 a1_1, .int .u64 a1_2] 29 (0, 0)) (by (with_reducible repeat (first | refine blk_drewN ?_ _ | refine blk_drew ?_ | refine blk_alloc ?_ _)); exact BK179.out) hb)
            have n5_ := Aside0.mk (below_step (by repeat (first | (with_reducible first | exact HB.out | apply below_alloc | apply pw_below_drewN | apply below_drew1 | refine below_set ?_ GE178.out | refine below_set ?_ GE179.out) | exact HB.out)) hb)
            clear HO182
            clear HO185
            clear BK178
            clear BK179
            clear HB
            have HO182 := n0_
            have HO185 := n1_
            have HO188 := n2_
            have BK178 := n3_
            have BK179 := n4_
            have HB := n5_
            clear n0_ n1_ n2_ n3_ n4_ n5_
            (try clear hb)
            (try clear hb2)
            (try clear hk)
            (try clear hi)
            (try clear ho0)
            refine hK.out _ _ ⟨(blk_cell BK178.out 0).trans rfl, (blk_cell BK178.out 1).trans rfl, (blk_cell BK178.out 2).trans rfl, (blk_cell BK179.out 0).trans rfl, (blk_cell BK179.out 1).trans rfl, (blk_cell BK179.out 2).trans rfl⟩ (fun hHeld => ?_)
            clear hK K
            refine norm_ (a' := ?_) ?_ ?_
            rotate_left
            · show Act.put _ (some 25) _ = _
              simp only [Act.put, List.setIfInBounds_toArray, List.set_cons_zero, List.set_cons_succ, i64_w, i32_w]
              rfl
            refine one_ (i := 9) (N := some 28) #[true, true, true, true, true, true, true, true, true, true, true, true, false, false, false, false] rfl rfl (one_of HT_.out (by kernel_rfl)) (by decide) (fun K hK => ?_)
            refine goes_ Try.func30 (by kernel_rfl) rfl #[.agg #[.int .u64 a1_0, .int .u64 a1_1]] (by rfl) rfl rfl (by (try simp only [List.map_toArray, List.map_cons, List.map_nil]); first | done | rfl | (simp only [List.length_drop, List.length_take]; rfl)) ?_
            with_reducible refine (hornbeamref04_OfWide.calls a1_0 a1_1 t189 _ A23.out).mono ?_
            rintro e w36 ⟨v190, rfl, ho0, hb⟩
            refine ⟨_, rfl, ?_⟩
            have n0_ := Aside0.mk (Kd.R_elder' (by (with_reducible repeat (first | apply Kd.R_alloc | apply Kd.R_drewN | apply Kd.R_drew)); exact HO182.out) (Kd.R_base ho0) hb)
            have n1_ := Aside0.mk (Kd.R_elder' (by (with_reducible repeat (first | apply Kd.R_alloc | apply Kd.R_drewN | apply Kd.R_drew)); exact HO185.out) (Kd.R_base ho0) hb)
            have n2_ := Aside0.mk (Kd.R_elder' (by (with_reducible repeat (first | apply Kd.R_alloc | apply Kd.R_drewN | apply Kd.R_drew)); exact HO188.out) (Kd.R_base ho0) hb)
            have n3_ := Aside0.mk (Kd.R_lower (Kd.R_new' (Kd.R_new' (Kd.R_new' ho0 (Kd.R_lt (by (with_reducible repeat (first | apply Kd.R_alloc | apply Kd.R_drewN | apply Kd.R_drew)); exact HO182.out))) (Kd.R_lt (by (with_reducible repeat (first | apply Kd.R_alloc | apply Kd.R_drewN | apply Kd.R_drew)); exact HO185.out))) (Kd.R_lt (by (with_reducible repeat (first | apply Kd.R_alloc | apply Kd.R_drewN | apply Kd.R_drew)); exact HO188.out))) (below_size (by repeat (first | (with_reducible first | exact HB.out | apply below_alloc | apply pw_below_drewN | apply below_drew1 | refine below_set ?_ GE178.out | refine below_set ?_ GE179.out) | exact HB.out))))
            have n4_ := Aside0.mk (blk_below (g := gb178) (o := .cells #[.int .u64 a0_0, .int .u64 a0_1, .int .u64 a0_2] 29 (0, 0)) (by (with_reducible repeat (first | refine blk_drewN ?_ _ | refine blk_drew ?_ | refine blk_alloc ?_ _)); exact BK178.out) hb)
            have n5_ := Aside0.mk (blk_below (g := gb179) (o := .cells #[.int .u64 a1_0, .int .u64 a1_1, .int .u64 a1_2] 29 (0, 0)) (by (with_reducible repeat (first | refine blk_drewN ?_ _ | refine blk_drew ?_ | refine blk_alloc ?_ _)); exact BK179.out) hb)
            have n6_ := Aside0.mk (below_step (by repeat (first | (with_reducible first | exact HB.out | apply below_alloc | apply pw_below_drewN | apply below_drew1 | refine below_set ?_ GE178.out | refine below_set ?_ GE179.out) | exact HB.out)) hb)
            clear HO182
            clear HO185
            clear HO188
            clear BK178
            clear BK179
            clear HB
            have HO182 := n0_
            have HO185 := n1_
            have HO188 := n2_
            have HO191 := n3_
            have BK178 := n4_
            have BK179 := n5_
            have HB := n6_
            clear n0_ n1_ n2_ n3_ n4_ n5_ n6_
            (try clear hb)
            (try clear hb2)
            (try clear hk)
            (try clear hi)
            (try clear ho0)
            refine hK.out _ _ ⟨(blk_cell BK178.out 0).trans rfl, (blk_cell BK178.out 1).trans rfl, (blk_cell BK178.out 2).trans rfl, (blk_cell BK179.out 0).trans rfl, (blk_cell BK179.out 1).trans rfl, (blk_cell BK179.out 2).trans rfl⟩ (fun hHeld => ?_)
            clear hK K
            refine norm_ (a' := ?_) ?_ ?_
            rotate_left
            · show Act.put _ (some 28) _ = _
              simp only [Act.put, List.setIfInBounds_toArray, List.set_cons_zero, List.set_cons_succ, i64_w, i32_w]
              rfl
            refine one_ (i := 12) (N := some 31) #[true, true, true, true, true, true, true, true, true, true, true, true, true, false, false, false] rfl rfl (one_of HT_.out (by kernel_rfl)) (by decide) (fun K hK => ?_)
            refine goes_ Try.func31 (by kernel_rfl) rfl #[.int .u64 a0_2] (by rfl) rfl rfl (by (try simp only [List.map_toArray, List.map_cons, List.map_nil]); first | done | rfl | (simp only [List.length_drop, List.length_take]; rfl)) ?_
            with_reducible refine (hornbeamref04_Digits.calls a0_2 t192 _ A24.out).mono ?_
            rintro e w37 ⟨v193, rfl, ho0, hb⟩
            refine ⟨_, rfl, ?_⟩
            have n0_ := Aside0.mk (Kd.R_elder' (by (with_reducible repeat (first | apply Kd.R_alloc | apply Kd.R_drewN | apply Kd.R_drew)); exact HO182.out) (Kd.R_base ho0) hb)
            have n1_ := Aside0.mk (Kd.R_elder' (by (with_reducible repeat (first | apply Kd.R_alloc | apply Kd.R_drewN | apply Kd.R_drew)); exact HO185.out) (Kd.R_base ho0) hb)
            have n2_ := Aside0.mk (Kd.R_elder' (by (with_reducible repeat (first | apply Kd.R_alloc | apply Kd.R_drewN | apply Kd.R_drew)); exact HO188.out) (Kd.R_base ho0) hb)
            have n3_ := Aside0.mk (Kd.R_elder' (by (with_reducible repeat (first | apply Kd.R_alloc | apply Kd.R_drewN | apply Kd.R_drew)); exact HO191.out) (Kd.R_base ho0) hb)
            have n4_ := Aside0.mk (Kd.R_lower (Kd.R_new' (Kd.R_new' (Kd.R_new' (Kd.R_new' ho0 (Kd.R_lt (by (with_reducible repeat (first | apply Kd.R_alloc | apply Kd.R_drewN | apply Kd.R_drew)); exact HO182.out))) (Kd.R_lt (by (with_reducible repeat (first | apply Kd.R_alloc | apply Kd.R_drewN | apply Kd.R_drew)); exact HO185.out))) (Kd.R_lt (by (with_reducible repeat (first | apply Kd.R_alloc | apply Kd.R_drewN | apply Kd.R_drew)); exact HO188.out))) (Kd.R_lt (by (with_reducible repeat (first | apply Kd.R_alloc | apply Kd.R_drewN | apply Kd.R_drew)); exact HO191.out))) (below_size (by repeat (first | (with_reducible first | exact HB.out | apply below_alloc | apply pw_below_drewN | apply below_drew1 | refine below_set ?_ GE178.out | refine below_set ?_ GE179.out) | exact HB.out))))
            have n5_ := Aside0.mk (blk_below (g := gb178) (o := .cells #[.int .u64 a0_0, .int .u64 a0_1, .int .u64 a0_2] 29 (0, 0)) (by (with_reducible repeat (first | refine blk_drewN ?_ _ | refine blk_drew ?_ | refine blk_alloc ?_ _)); exact BK178.out) hb)
            have n6_ := Aside0.mk (blk_below (g := gb179) (o := .cells #[.int .u64 a1_0, .int .u64 a1_1, .int .u64 a1_2] 29 (0, 0)) (by (with_reducible repeat (first | refine blk_drewN ?_ _ | refine blk_drew ?_ | refine blk_alloc ?_ _)); exact BK179.out) hb)
            have n7_ := Aside0.mk (below_step (by repeat (first | (with_reducible first | exact HB.out | apply below_alloc | apply pw_below_drewN | apply below_drew1 | refine below_set ?_ GE178.out | refine below_set ?_ GE179.out) | exact HB.out)) hb)
            clear HO182
            clear HO185
            clear HO188
            clear HO191
            clear BK178
            clear BK179
            clear HB
            have HO182 := n0_
            have HO185 := n1_
            have HO188 := n2_
            have HO191 := n3_
            have HO194 := n4_
            have BK178 := n5_
            have BK179 := n6_
            have HB := n7_
            clear n0_ n1_ n2_ n3_ n4_ n5_ n6_ n7_
            (try clear hb)
            (try clear hb2)
            (try clear hk)
            (try clear hi)
            (try clear ho0)
            obtain ⟨Ao38, co38, eo38⟩ := Kd.R_slice HO191.out
            (first | subst eo38 | (injection eo38 with f1_ f2_ f3_; have f4_ := f1_.symm; have f5_ := f3_.symm; clear f1_ f2_ f3_; subst f4_; subst f5_))
            obtain ⟨Ao39, co39, eo39⟩ := Kd.R_slice HO194.out
            (first | subst eo39 | (injection eo39 with f1_ f2_ f3_; have f4_ := f1_.symm; have f5_ := f3_.symm; clear f1_ f2_ f3_; subst f4_; subst f5_))
            refine hK.out _ _ ⟨(blk_cell BK178.out 0).trans rfl, (blk_cell BK178.out 1).trans rfl, (blk_cell BK178.out 2).trans rfl, (blk_cell BK179.out 0).trans rfl, (blk_cell BK179.out 1).trans rfl, (blk_cell BK179.out 2).trans rfl⟩ (fun hHeld => ?_)
            clear hK K
            refine norm_ (a' := ?_) ?_ ?_
            rotate_left
            · show Act.put _ (some 31) _ = _
              simp only [Act.put, List.setIfInBounds_toArray, List.set_cons_zero, List.set_cons_succ, i64_w, i32_w]
              rfl
            refine one_ (i := 13) (N := some 32) #[true, true, true, true, true, true, true, true, true, true, true, true, true, true, false, false] rfl rfl (one_of HT_.out (by kernel_rfl)) (by decide) (fun K hK => ?_)
            refine goes_ Try.func29 (by kernel_rfl) rfl #[.slice Ao38 t189.length co38, .slice Ao39 t192.length co39] (by rfl) rfl rfl (by (try simp only [List.map_toArray, List.map_cons, List.map_nil]); first | done | rfl | (simp only [List.length_drop, List.length_take]; rfl)) ?_
            with_reducible refine (hornbeamref04_Product.calls kj2 _ _ t189 _ _ t192 t195 _ ?side1 ?side2 ?side3 ?side4 A25.out).mono ?_
            (case side1 => repeat (first | exact (Kd.R_reads' HO191.out).2.2 | (with_reducible refine Kd.C_alloc ?_ _) | (with_reducible refine Kd.C_drewN ?_ _) | (with_reducible refine Kd.C_drew ?_)))
            (case side2 => exact (Kd.R_reads' HO191.out).2.1)
            (case side3 => repeat (first | exact (Kd.R_reads' HO194.out).2.2 | (with_reducible refine Kd.C_alloc ?_ _) | (with_reducible refine Kd.C_drewN ?_ _) | (with_reducible refine Kd.C_drew ?_)))
            (case side4 => exact (Kd.R_reads' HO194.out).2.1)
            rintro e w40 ⟨v196, rfl, ho0, hb⟩
            refine ⟨_, rfl, ?_⟩
            have n0_ := Aside0.mk (Kd.R_elder' (by (with_reducible repeat (first | apply Kd.R_alloc | apply Kd.R_drewN | apply Kd.R_drew)); exact HO182.out) (Kd.R_base ho0) hb)
            have n1_ := Aside0.mk (Kd.R_elder' (by (with_reducible repeat (first | apply Kd.R_alloc | apply Kd.R_drewN | apply Kd.R_drew)); exact HO185.out) (Kd.R_base ho0) hb)
            have n2_ := Aside0.mk (Kd.R_elder' (by (with_reducible repeat (first | apply Kd.R_alloc | apply Kd.R_drewN | apply Kd.R_drew)); exact HO188.out) (Kd.R_base ho0) hb)
            have n3_ := Aside0.mk (Kd.R_elder' (by (with_reducible repeat (first | apply Kd.R_alloc | apply Kd.R_drewN | apply Kd.R_drew)); exact HO191.out) (Kd.R_base ho0) hb)
            have n4_ := Aside0.mk (Kd.R_elder' (by (with_reducible repeat (first | apply Kd.R_alloc | apply Kd.R_drewN | apply Kd.R_drew)); exact HO194.out) (Kd.R_base ho0) hb)
            have n5_ := Aside0.mk (Kd.R_lower (Kd.R_new' (Kd.R_new' (Kd.R_new' (Kd.R_new' (Kd.R_new' ho0 (Kd.R_lt (by (with_reducible repeat (first | apply Kd.R_alloc | apply Kd.R_drewN | apply Kd.R_drew)); exact HO182.out))) (Kd.R_lt (by (with_reducible repeat (first | apply Kd.R_alloc | apply Kd.R_drewN | apply Kd.R_drew)); exact HO185.out))) (Kd.R_lt (by (with_reducible repeat (first | apply Kd.R_alloc | apply Kd.R_drewN | apply Kd.R_drew)); exact HO188.out))) (Kd.R_lt (by (with_reducible repeat (first | apply Kd.R_alloc | apply Kd.R_drewN | apply Kd.R_drew)); exact HO191.out))) (Kd.R_lt (by (with_reducible repeat (first | apply Kd.R_alloc | apply Kd.R_drewN | apply Kd.R_drew)); exact HO194.out))) (below_size (by repeat (first | (with_reducible first | exact HB.out | apply below_alloc | apply pw_below_drewN | apply below_drew1 | refine below_set ?_ GE178.out | refine below_set ?_ GE179.out) | exact HB.out))))
            have n6_ := Aside0.mk (blk_below (g := gb178) (o := .cells #[.int .u64 a0_0, .int .u64 a0_1, .int .u64 a0_2] 29 (0, 0)) (by (with_reducible repeat (first | refine blk_drewN ?_ _ | refine blk_drew ?_ | refine blk_alloc ?_ _)); exact BK178.out) hb)
            have n7_ := Aside0.mk (blk_below (g := gb179) (o := .cells #[.int .u64 a1_0, .int .u64 a1_1, .int .u64 a1_2] 29 (0, 0)) (by (with_reducible repeat (first | refine blk_drewN ?_ _ | refine blk_drew ?_ | refine blk_alloc ?_ _)); exact BK179.out) hb)
            have n8_ := Aside0.mk (below_step (by repeat (first | (with_reducible first | exact HB.out | apply below_alloc | apply pw_below_drewN | apply below_drew1 | refine below_set ?_ GE178.out | refine below_set ?_ GE179.out) | exact HB.out)) hb)
            clear HO182
            clear HO185
            clear HO188
            clear HO191
            clear HO194
            clear BK178
            clear BK179
            clear HB
            have HO182 := n0_
            have HO185 := n1_
            have HO188 := n2_
            have HO191 := n3_
            have HO194 := n4_
            have HO197 := n5_
            have BK178 := n6_
            have BK179 := n7_
            have HB := n8_
            clear n0_ n1_ n2_ n3_ n4_ n5_ n6_ n7_ n8_
            (try clear hb)
            (try clear hb2)
            (try clear hk)
            (try clear hi)
            (try clear ho0)
            obtain ⟨Ao41, co41, eo41⟩ := Kd.R_slice HO188.out
            (first | subst eo41 | (injection eo41 with f1_ f2_ f3_; have f4_ := f1_.symm; have f5_ := f3_.symm; clear f1_ f2_ f3_; subst f4_; subst f5_))
            obtain ⟨Ao42, co42, eo42⟩ := Kd.R_slice HO197.out
            (first | subst eo42 | (injection eo42 with f1_ f2_ f3_; have f4_ := f1_.symm; have f5_ := f3_.symm; clear f1_ f2_ f3_; subst f4_; subst f5_))
            refine hK.out _ _ ⟨(blk_cell BK178.out 0).trans rfl, (blk_cell BK178.out 1).trans rfl, (blk_cell BK178.out 2).trans rfl, (blk_cell BK179.out 0).trans rfl, (blk_cell BK179.out 1).trans rfl, (blk_cell BK179.out 2).trans rfl⟩ (fun hHeld => ?_)
            clear hK K
            refine norm_ (a' := ?_) ?_ ?_
            rotate_left
            · show Act.put _ (some 32) _ = _
              simp only [Act.put, List.setIfInBounds_toArray, List.set_cons_zero, List.set_cons_succ, i64_w, i32_w]
              rfl
            refine one_ (i := 14) (N := some 33) #[true, true, true, true, true, true, true, true, true, true, true, true, true, true, true, false] rfl rfl (one_of HT_.out (by kernel_rfl)) (by decide) (fun K hK => ?_)
            refine goes_ Try.func28 (by kernel_rfl) rfl #[.slice Ao41 t186.length co41, .slice Ao42 t195.length co42] (by rfl) rfl rfl (by (try simp only [List.map_toArray, List.map_cons, List.map_nil]); first | done | rfl | (simp only [List.length_drop, List.length_take]; rfl)) ?_
            with_reducible refine (hornbeamref04_Compare.calls kj2 _ _ t186 _ _ t195 t198 _ ?side1 ?side2 ?side3 ?side4 A26.out).mono ?_
            (case side1 => repeat (first | exact (Kd.R_reads' HO188.out).2.2 | (with_reducible refine Kd.C_alloc ?_ _) | (with_reducible refine Kd.C_drewN ?_ _) | (with_reducible refine Kd.C_drew ?_)))
            (case side2 => exact (Kd.R_reads' HO188.out).2.1)
            (case side3 => repeat (first | exact (Kd.R_reads' HO197.out).2.2 | (with_reducible refine Kd.C_alloc ?_ _) | (with_reducible refine Kd.C_drewN ?_ _) | (with_reducible refine Kd.C_drew ?_)))
            (case side4 => exact (Kd.R_reads' HO197.out).2.1)
            rintro e w' ⟨rfl, ⟨nd, rfl⟩⟩
            refine ⟨_, rfl, ?_⟩
            refine hK.out _ _ ⟨(blk_cell BK178.out 0).trans rfl, (blk_cell BK178.out 1).trans rfl, (blk_cell BK178.out 2).trans rfl, (blk_cell BK179.out 0).trans rfl, (blk_cell BK179.out 1).trans rfl, (blk_cell BK179.out 2).trans rfl⟩ (fun hHeld => ?_)
            clear hK K
            refine norm_ (a' := ?_) ?_ ?_
            rotate_left
            · show Act.put _ (some 33) _ = _
              simp only [Act.put, List.setIfInBounds_toArray, List.set_cons_zero, List.set_cons_succ, i64_w, i32_w]
              rfl
            refine pure_ (i := 15) (N := some 4) (v := ?_) (a' := ?_) #[true, true, true, true, true, true, true, true, true, true, true, true, true, true, true, true] rfl rfl (any_of HT_.out (by kernel_rfl)) (fun _ _ _ h => h) (Or.inl ⟨by rfl, ?_⟩) ?_ ?_
            rotate_left
            · intro w'
              go_simp
              with_reducible rfl
            rotate_left
            · simp only [Act.put, List.setIfInBounds_toArray, List.set_cons_zero, List.set_cons_succ, i64_w, i32_w]
              rfl
            refine done_ (done_of HT_.out (by kernel_rfl)) ?_
            try go_wp2
            all_goals (go_ret; exact ⟨by first | rfl | (simp [errW_none, errW_some] <;> rfl) | (simp [*, errW_none, errW_some] <;> rfl) | (simp_all; done), by repeat (first | (with_reducible first | exact HB.out | apply below_alloc | apply pw_below_drewN | apply below_drew1 | refine below_set ?_ GE178.out | refine below_set ?_ GE179.out) | exact HB.out)⟩)

/-! ### gini_Pure: function 17 -/
def gini_Pure.g (x : Int) : Int := if 1 < x then 1 else x
def gini_Pure.s (l : List Int) : Int := l.foldl (fun acc x => IntKind.u64.wrap (acc + gini_Pure.g (IntKind.u64.wrap x))) 0
def gini_Pure.f (k : Nat) (l : List Int) : Option Bool := (gini_May.f k l).bind fun t => if t = true then (if l.length ≤ 9223372036854775807 then some (decide (gini_Pure.s l ≤ 1)) else none) else some false
theorem gini_Pure.mono : ∀ a0 k, LeO (gini_Pure.f k a0) (gini_Pure.f (k + 1) a0) := by
  intro a0 k
  unfold gini_Pure.f
  refine LeO.bind ?_ (fun _ => ?_)
  · exact gini_May.mono _ _
  · exact LeO.refl _
theorem gini_Pure.s_snoc (l : List Int) (k : Nat) (h : k < l.length) : gini_Pure.s (l.take (k + 1)) = IntKind.u64.wrap (gini_Pure.s (l.take k) + gini_Pure.g (IntKind.u64.wrap (rd l (k : Int)))) := by
  unfold gini_Pure.s
  rw [List.take_succ_eq_append_getElem h, List.foldl_append]
  simp [rd, List.getD, h]
set_option maxHeartbeats 8000000 in
set_option maxRecDepth 100000 in
theorem gini_Pure.calls (k : Nat) (A0 : Option Addr) (c0 : Nat) (l0 : List Int) (r : Bool) (w : World) (hr0 : Kd.C (Kd.int .i64) w A0 l0.length l0) (hc0 : l0.length ≤ c0) (h : gini_Pure.f k l0 = some r) :
    Calls Try.prog 17 #[.slice A0 l0.length c0] w fun e w' => e = .returned (.bool r) ∧ Drawn0 w w' := by
  have HR0 := Aside0.mk hr0
  have HC0 := Aside0.mk hc0
  clear hr0 hc0
  have H : ((gini_May.f k l0).bind fun t => if t = true then (if l0.length ≤ 9223372036854775807 then some (decide (gini_Pure.s l0 ≤ 1)) else none) else some false) = some r := h
  clear h
  replace H := Option.bind_eq_some_iff.mp H
  obtain ⟨t, A20, H⟩ := H
  have A2 := Aside0.mk A20
  clear A20
  by_cases ct : t = true
  · subst ct
    have hl_ : l0.length ≤ 9223372036854775807 ∧ decide (gini_Pure.s l0 ≤ 1) = r := by
      rw [if_pos rfl] at H
      split at H
      · exact ⟨by assumption, Option.some.inj H⟩
      · cases H
    clear H
    obtain ⟨hlen, rfl⟩ := hl_
    have HLEN := Aside0.mk hlen
    clear hlen
    go_enter Try.func17, Try.ntmps17
    go_wp2_with (first | ((with_reducible refine gate_callee (f := 9) rfl ?_); refine goesL_ (some 4) rfl rfl Try.func9 (by kernel_rfl) rfl #[.slice A0 l0.length c0] rfl (by (try simp only [List.map_toArray, List.map_cons, List.map_nil]); first | done | rfl | (simp only [List.length_drop, List.length_take]; rfl)) ?_; (with_reducible refine (gini_May.calls k _ _ l0 true _ ?side1 ?side2 A2.out).mono ?_); (case side1 => repeat (first | exact HR0.out | (with_reducible refine Kd.C_alloc ?_ _) | (with_reducible refine Kd.C_drewN ?_ _) | (with_reducible refine Kd.C_drew ?_))); (case side2 => exact HC0.out); rintro e w' ⟨rfl, ⟨nd, rfl⟩⟩; refine ⟨_, rfl, ?_⟩))
    go_wp2
    go_loopw [5, 10] (fun v5 v10 w' => ∃ x5 x10 : Int, v5 = .int .u64 x5 ∧ v10 = .int .i64 x10 ∧ Aside0 (0 ≤ x10 ∧ x10 ≤ (l0.length : Int) ∧ x5 = gini_Pure.s (l0.take x10.toNat)) ∧ Drawn0 w w') (fun _ v10 _ => l0.length - (intOf v10).toNat)
    case atStart => exact ⟨0, 0, rfl, rfl, ⟨by omega, by omega, rfl⟩, by repeat (first | exact Drawn0.refl _ | apply Drawn0.step)⟩
    case round =>
      obtain ⟨x5, x10, rfl, rfl, HK, ⟨m1, rfl⟩⟩ := hrel
      by_cases hlt : x10 < (l0.length : Int)
      · have HN : Aside0 (IntKind.u64.wrap (x5 + gini_Pure.g (IntKind.u64.wrap (rd l0 x10))) = gini_Pure.s (l0.take (x10 + 1).toNat)) := ⟨by
          obtain ⟨h0, h1, h2⟩ := HK.out
          obtain ⟨k, rfl⟩ := Int.eq_ofNat_of_zero_le h0
          rw [show ((k : Int) + 1).toNat = k + 1 by omega, gini_Pure.s_snoc l0 k (by omega), h2]; rfl⟩
        have hltb : decide (x10 < (l0.length : Int)) = true := decide_eq_true hlt
        have h0b : decide (0 ≤ x10) = true := decide_eq_true HK.out.1
        have HM : Aside0 (wrap64 (x10 + 1) = x10 + 1) := ⟨by have := HLEN.out; have := HK.out; unfold wrap64; omega⟩
        have HLT := Aside0.mk hlt
        obtain ⟨ad, e, hx⟩ := Kd.at_int HR0.out x10 HK.out.1 hlt
        cases e
        have p1 := eq_true HK.out.1
        have q1 := eq_true hlt
        clear hlt
        go_wp2
        go_roundw
        case rel => exact ⟨_, _, rfl, rfl, ⟨by rw [HM.out]; have := HK.out; omega, by rw [HM.out]; have := HLT.out; omega, by rw [HM.out]; exact HN.out⟩, by repeat (first | exact Drawn0.refl _ | apply Drawn0.step)⟩
        case measure => have := HK.out; have := HLT.out; have := HM.out; simp only [intOf]; first | omega | (simp [intOf]; omega)
      · have HE := Aside0.mk (show x10 = (l0.length : Int) by have := HK.out; omega)
        have HX : Aside0 (x5 = gini_Pure.s l0) := ⟨by have := HK.out.2.2; rw [HE.out, Int.toNat_natCast, List.take_length] at this; exact this⟩
        have hltb : decide (x10 < (l0.length : Int)) = false := decide_eq_false hlt
        clear hlt
        go_wp2
        go_ret
        exact ⟨by rw [HX.out]; rfl, by repeat (first | exact Drawn0.refl _ | apply Drawn0.step)⟩
  · replace ct := Bool.eq_false_iff.mpr ct
    subst ct
    have hr_ : false = r := by rw [if_neg (by decide)] at H; exact Option.some.inj H
    subst hr_
    clear H
    go_enter Try.func17, Try.ntmps17
    go_wp2_with (first | ((with_reducible refine gate_callee (f := 9) rfl ?_); refine goesL_ (some 4) rfl rfl Try.func9 (by kernel_rfl) rfl #[.slice A0 l0.length c0] rfl (by (try simp only [List.map_toArray, List.map_cons, List.map_nil]); first | done | rfl | (simp only [List.length_drop, List.length_take]; rfl)) ?_; (with_reducible refine (gini_May.calls k _ _ l0 false _ ?side1 ?side2 A2.out).mono ?_); (case side1 => repeat (first | exact HR0.out | (with_reducible refine Kd.C_alloc ?_ _) | (with_reducible refine Kd.C_drewN ?_ _) | (with_reducible refine Kd.C_drew ?_))); (case side2 => exact HC0.out); rintro e w' ⟨rfl, ⟨nd, rfl⟩⟩; refine ⟨_, rfl, ?_⟩))
    go_ret
    exact ⟨rfl, by repeat (first | exact Drawn0.refl _ | apply Drawn0.step)⟩


end Go.Proofs.Ytpbgfmbkjojdeaa.QGiniEnds
