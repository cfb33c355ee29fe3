-- Written by a program of this session (wip/tools/mkprint.py over the kit's print); Lean checks it.
import Derived.Test.YtglicbpnmehloaaQVoteMeansx0
import Derived.Test.YtglicbpnmehloaaQVoteMeansx1
namespace Go.Proofs.Ytglicbpnmehloaa.QVoteMeans
open Go.RowKit Go.Proofs.YtglicbpnmehloaaW.PrintWords Go.Proofs.YtglicbpnmehloaaW.PrintLast Go.Proofs.YtglicbpnmehloaaW.PrintMore
attribute [local go_sem] max2_int min2_int max_two min_two max_three min_three max_four min_four   -- for this text's walks alone
set_option linter.unusedVariables false
set_option linter.unusedSimpArgs false

/-! ### hornbeamlaw24_VoteMeans: function 5 -/
mutual
def hornbeamlaw24_VoteMeans.j0 : Nat → List (S31) → Bool → Option (Bool)
  | 0, _, _ => none
  | k + 1, x0, x20 => if x20 = true then ((hornbeamlaw24_fixed.f k).bind fun t119 => (some t119)) else (hornbeamlaw24_VoteMeans.l0 k x0 4611686018427387904 (-4611686018427387904) x0 (x0.length : Int) 0)
def hornbeamlaw24_VoteMeans.l0 : Nat → List (S31) → Int → Int → List (S31) → Int → Int → Option (Bool)
  | 0, _, _, _, _, _, _ => none
  | k + 1, x0, x3, x4, x22, x23, x24 => if x24 < x23 then (if 0 ≤ x24 then (if x24 < (x22.length : Int) then (if ((rd_T31 x22 x24).f5) < 1 then (hornbeamlaw24_VoteMeans.j2 k x0 x3 x4 x22 x23 x24 true ((rd_T31 x22 x24).f0) ((rd_T31 x22 x24).f1) ((rd_T31 x22 x24).f2) ((rd_T31 x22 x24).f3) ((rd_T31 x22 x24).f4) ((rd_T31 x22 x24).f5)) else (if ((rd_T31 x22 x24).f5) > 1048576 then (hornbeamlaw24_VoteMeans.j2 k x0 x3 x4 x22 x23 x24 true ((rd_T31 x22 x24).f0) ((rd_T31 x22 x24).f1) ((rd_T31 x22 x24).f2) ((rd_T31 x22 x24).f3) ((rd_T31 x22 x24).f4) ((rd_T31 x22 x24).f5)) else (if ((rd_T31 x22 x24).f4) > (wrap64 (1048576 * ((rd_T31 x22 x24).f5))) then (hornbeamlaw24_VoteMeans.j2 k x0 x3 x4 x22 x23 x24 true ((rd_T31 x22 x24).f0) ((rd_T31 x22 x24).f1) ((rd_T31 x22 x24).f2) ((rd_T31 x22 x24).f3) ((rd_T31 x22 x24).f4) ((rd_T31 x22 x24).f5)) else (hornbeamlaw24_VoteMeans.j2 k x0 x3 x4 x22 x23 x24 (decide (((rd_T31 x22 x24).f4) < (wrap64 ((-1048576) * ((rd_T31 x22 x24).f5))))) ((rd_T31 x22 x24).f0) ((rd_T31 x22 x24).f1) ((rd_T31 x22 x24).f2) ((rd_T31 x22 x24).f3) ((rd_T31 x22 x24).f4) ((rd_T31 x22 x24).f5))))) else (none)) else (none)) else ((vote_Mean.f k x0).bind fun bt120 => ((some (([] : List (S31)) : List (S31))).bind fun y122 => (if y122.length + x0.length < 2932031007402 then ((some (y122 ++ x0 : List (S31))).bind fun y125 => (if y125.length + x0.length < 2932031007402 then ((vote_Mean.f k (y125 ++ x0)).bind fun bt131 => ((hornbeamlaw24_fixed.f k).bind fun t133 => (if t133 = true then (if bt120.2 = 0 then (if bt131.2 = 0 then (if bt120.1 = bt131.1 then (if x3 ≤ bt120.1 then (some (decide (bt120.1 ≤ x4))) else (some false)) else (some false)) else (some false)) else (some false)) else (some false)))) else (none))) else (none))))
def hornbeamlaw24_VoteMeans.j2 : Nat → List (S31) → Int → Int → List (S31) → Int → Int → Bool → Int → Int → Int → Int → Int → Int → Option (Bool)
  | 0, _, _, _, _, _, _, _, _, _, _, _, _, _ => none
  | k + 1, x0, x3, x4, x22, x23, x24, x51, x136000, x136001, x136002, x136003, x136004, x136005 => if x51 = true then ((hornbeamlaw24_fixed.f k).bind fun t136 => (some t136)) else ((vote_Mean.f k (([(⟨x136000, x136001, x136002, x136003, x136004, x136005⟩ : S31)] : List (S31)))).bind fun bt140 => (if bt140.2 = 0 then (if (wrap64 (bt140.1 * x136005)) > x136004 then (some false) else (if (wrap64 ((wrap64 (bt140.1 + 1)) * x136005)) ≤ x136004 then (some false) else (hornbeamlaw24_VoteMeans.l0 k x0 (mn x3 bt140.1) (mx x4 bt140.1) x22 x23 (wrap64 (x24 + 1))))) else (some false)))
end
def hornbeamlaw24_VoteMeans.f (k : Nat) (l0 : List (S31)) : Option (Bool) := if (l0.length : Int) > 300 then (hornbeamlaw24_VoteMeans.j0 k l0 true) else (hornbeamlaw24_VoteMeans.j0 k l0 ((l0.length : Int) == 0))
theorem hornbeamlaw24_VoteMeans.mono_l : ∀ k, (∀ y0 y1, LeO (hornbeamlaw24_VoteMeans.j0 k y0 y1) (hornbeamlaw24_VoteMeans.j0 (k + 1) y0 y1)) ∧ (∀ y0 y1 y2 y3 y4 y5, LeO (hornbeamlaw24_VoteMeans.l0 k y0 y1 y2 y3 y4 y5) (hornbeamlaw24_VoteMeans.l0 (k + 1) y0 y1 y2 y3 y4 y5)) ∧ (∀ y0 y1 y2 y3 y4 y5 y6 y7 y8 y9 y10 y11 y12, LeO (hornbeamlaw24_VoteMeans.j2 k y0 y1 y2 y3 y4 y5 y6 y7 y8 y9 y10 y11 y12) (hornbeamlaw24_VoteMeans.j2 (k + 1) y0 y1 y2 y3 y4 y5 y6 y7 y8 y9 y10 y11 y12))
  | 0 => ⟨fun _ _ r h => by simp [hornbeamlaw24_VoteMeans.j0] at h, fun _ _ _ _ _ _ r h => by simp [hornbeamlaw24_VoteMeans.l0] at h, fun _ _ _ _ _ _ _ _ _ _ _ _ _ r h => by simp [hornbeamlaw24_VoteMeans.j2] at h⟩
  | k + 1 => by
    obtain ⟨ih0, ih1, ih2⟩ := hornbeamlaw24_VoteMeans.mono_l k
    refine ⟨?_, ?_, ?_⟩
    · intro y0 y1
      unfold hornbeamlaw24_VoteMeans.j0
      repeat' first
      | (with_reducible exact ih0 _ _)
      | (with_reducible exact ih1 _ _ _ _ _ _)
      | (with_reducible exact ih2 _ _ _ _ _ _ _ _ _ _ _ _ _)
      | (with_reducible exact hornbeamlaw24_fixed.mono _)
      | (with_reducible exact vote_Mean.mono _ _)
      | (with_reducible exact LeO.refl _)
      | (with_reducible exact LeO.none _)
      | (with_reducible refine LeO.ite ?_ ?_)
      | (with_reducible refine LeO.bind ?_ (fun _ => ?_))
      | exact ih0 _ _
      | exact ih1 _ _ _ _ _ _
      | exact ih2 _ _ _ _ _ _ _ _ _ _ _ _ _
      | exact hornbeamlaw24_fixed.mono _
      | exact vote_Mean.mono _ _
      | exact LeO.none _
      | refine LeO.ite ?_ ?_
      | refine LeO.bind ?_ (fun _ => ?_)
    · intro y0 y1 y2 y3 y4 y5
      unfold hornbeamlaw24_VoteMeans.l0
      repeat' first
      | (with_reducible exact ih0 _ _)
      | (with_reducible exact ih1 _ _ _ _ _ _)
      | (with_reducible exact ih2 _ _ _ _ _ _ _ _ _ _ _ _ _)
      | (with_reducible exact hornbeamlaw24_fixed.mono _)
      | (with_reducible exact vote_Mean.mono _ _)
      | (with_reducible exact LeO.refl _)
      | (with_reducible exact LeO.none _)
      | (with_reducible refine LeO.ite ?_ ?_)
      | (with_reducible refine LeO.bind ?_ (fun _ => ?_))
      | exact ih0 _ _
      | exact ih1 _ _ _ _ _ _
      | exact ih2 _ _ _ _ _ _ _ _ _ _ _ _ _
      | exact hornbeamlaw24_fixed.mono _
      | exact vote_Mean.mono _ _
      | exact LeO.none _
      | refine LeO.ite ?_ ?_
      | refine LeO.bind ?_ (fun _ => ?_)
    · intro y0 y1 y2 y3 y4 y5 y6 y7 y8 y9 y10 y11 y12
      unfold hornbeamlaw24_VoteMeans.j2
      repeat' first
      | (with_reducible exact ih0 _ _)
      | (with_reducible exact ih1 _ _ _ _ _ _)
      | (with_reducible exact ih2 _ _ _ _ _ _ _ _ _ _ _ _ _)
      | (with_reducible exact hornbeamlaw24_fixed.mono _)
      | (with_reducible exact vote_Mean.mono _ _)
      | (with_reducible exact LeO.refl _)
      | (with_reducible exact LeO.none _)
      | (with_reducible refine LeO.ite ?_ ?_)
      | (with_reducible refine LeO.bind ?_ (fun _ => ?_))
      | exact ih0 _ _
      | exact ih1 _ _ _ _ _ _
      | exact ih2 _ _ _ _ _ _ _ _ _ _ _ _ _
      | exact hornbeamlaw24_fixed.mono _
      | exact vote_Mean.mono _ _
      | exact LeO.none _
      | refine LeO.ite ?_ ?_
      | refine LeO.bind ?_ (fun _ => ?_)
theorem hornbeamlaw24_VoteMeans.mono : ∀ a0 k, LeO (hornbeamlaw24_VoteMeans.f k a0) (hornbeamlaw24_VoteMeans.f (k + 1) a0) := by
  intro a0 k
  obtain ⟨ih0, ih1, ih2⟩ := hornbeamlaw24_VoteMeans.mono_l k
  unfold hornbeamlaw24_VoteMeans.f
  repeat' first
      | (with_reducible exact ih0 _ _)
      | (with_reducible exact ih1 _ _ _ _ _ _)
      | (with_reducible exact ih2 _ _ _ _ _ _ _ _ _ _ _ _ _)
      | (with_reducible exact hornbeamlaw24_fixed.mono _)
      | (with_reducible exact vote_Mean.mono _ _)
      | (with_reducible exact LeO.refl _)
      | (with_reducible exact LeO.none _)
      | (with_reducible refine LeO.ite ?_ ?_)
      | (with_reducible refine LeO.bind ?_ (fun _ => ?_))
      | exact ih0 _ _
      | exact ih1 _ _ _ _ _ _
      | exact ih2 _ _ _ _ _ _ _ _ _ _ _ _ _
      | exact hornbeamlaw24_fixed.mono _
      | exact vote_Mean.mono _ _
      | exact LeO.none _
      | refine LeO.ite ?_ ?_
      | refine LeO.bind ?_ (fun _ => ?_)
set_option maxHeartbeats 8000000 in
set_option maxRecDepth 100000 in
theorem hornbeamlaw24_VoteMeans.calls (k : Nat) (A0 : Option Addr) (c0 : Nat) (l0 : List (S31)) (r : Bool) (w : World) (hr0 : Kd.C k31 w A0 l0.length l0) (hc0 : l0.length ≤ c0) (h : hornbeamlaw24_VoteMeans.f k l0 = some r) (hr_ : r = true) :
    Calls Try.prog 5 #[.slice A0 l0.length c0] w fun e w' => e = .returned (.bool r) ∧ Below w.heap.size w w' := by
  have hu31 := Try.underlying31
  have HR_ := Aside0.mk hr_
  clear hr_
  have HR0 := Aside0.mk hr0
  have HC0 := Aside0.mk hc0
  clear hr0 hc0
  have HB := Aside0.mk (Below.refl w.heap.size w)
  have H : (if (l0.length : Int) > 300 then (hornbeamlaw24_VoteMeans.j0 k l0 true) else (hornbeamlaw24_VoteMeans.j0 k l0 ((l0.length : Int) == 0))) = some r := h
  clear h
  have HC2 := Aside0.mk H
  clear H
  go_enter Try.func5, Try.ntmps5
  go_upto_region 1 with (fail)
  go_cut [20] (fun v20 wc => ∃ (kq : Nat) (x20_1 : Bool), v20 = .bool x20_1 ∧ Aside0 (hornbeamlaw24_VoteMeans.j0 kq l0 x20_1 = some r) ∧ Aside0 (kq ≤ k) ∧ Aside0 (Below w.heap.size w wc))
  case first =>
    have H := HC2.out
    clear HC2
    by_cases c3 : (l0.length : Int) > 300
    · rw [if_pos c3] at H
      have c3b0 : decide (300 < (l0.length : Int)) = true := decide_eq_true c3
      have c3b1 : decide (300 < l0.length) = true := decide_eq_true (by omega)
      clear c3
      (first | rw [c3b0] | (simp only [i64_w, i32_w]; rw [c3b0]) | skip)
      have H' := Aside0.mk H
      clear H
      go_wp2
      go_meet
      case rel => exact ⟨_, (true), (by first | rfl | (simp; done) | (simp [*]; done)), H', ⟨by first | omega | exact Nat.le_refl _⟩, ⟨by repeat (first | (with_reducible first | exact HB.out | apply below_alloc | apply pw_below_drewN | apply below_drew1) | exact HB.out)⟩⟩
    · rw [if_neg c3] at H
      have c3b0 : decide (300 < (l0.length : Int)) = false := decide_eq_false c3
      have c3b1 : decide (300 < l0.length) = false := decide_eq_false (by omega)
      clear c3
      (first | rw [c3b0] | (simp only [i64_w, i32_w]; rw [c3b0]) | skip)
      have H' := Aside0.mk H
      clear H
      go_wp2
      go_meet
      case rel => exact ⟨_, (((l0.length : Int) == 0)), (by first | rfl | (simp; done) | (simp [*]; done)), H', ⟨by first | omega | exact Nat.le_refl _⟩, ⟨by repeat (first | (with_reducible first | exact HB.out | apply below_alloc | apply pw_below_drewN | apply below_drew1) | exact HB.out)⟩⟩
  case rest =>
    clear HC2
    try clear p2
    try clear c3
    try clear c3b0
    try clear c3b1
    obtain ⟨kq, x20_1, rfl, HA, HJ1, HB⟩ := hcut
    cases kq with
    | zero => exact absurd HA.out (by simp [hornbeamlaw24_VoteMeans.j0])
    | succ kj1 =>
      have H := HA.out
      clear HA
      simp only [hornbeamlaw24_VoteMeans.j0] at H
      by_cases c4 : x20_1 = true
      · subst c4
        have H1 : ((hornbeamlaw24_fixed.f kj1).bind fun t119 => (some t119)) = some r := by rw [if_pos rfl] at H; exact H
        clear H
        have H := H1
        clear H1
        replace H := Option.bind_eq_some_iff.mp H
        obtain ⟨t119, A50, H⟩ := H
        replace H : (some t119) = some r := H
        have A5 := Aside0.mk A50
        clear A50
        obtain rfl := Option.some.inj H
        go_wp2_with (first | ((with_reducible refine gate_callee (f := 13) rfl ?_); refine goesL_ (some 21) rfl rfl Try.func13 (by kernel_rfl) rfl #[] rfl (by (try simp only [List.map_toArray, List.map_cons, List.map_nil]); first | done | rfl | (simp only [List.length_drop, List.length_take]; rfl)) ?_; (with_reducible refine (hornbeamlaw24_fixed.calls kj1  t119 _ A5.out).mono ?_); rintro e w6 ⟨rfl, hb⟩; refine ⟨_, rfl, ?_⟩; have n0_ := Aside0.mk (below_step (by repeat (first | (with_reducible first | exact HB.out | apply below_alloc | apply pw_below_drewN | apply below_drew1) | exact HB.out)) hb); clear HB; have HB := n0_; clear n0_; (try clear hb); (try clear hb2); (try clear hk); (try clear hi)))
        all_goals (go_ret; exact ⟨by first | rfl | (simp [errW_none, errW_some] <;> rfl) | (simp [*, errW_none, errW_some] <;> rfl) | (simp_all; done), by repeat (first | (with_reducible first | exact HB.out | apply below_alloc | apply pw_below_drewN | apply below_drew1) | exact HB.out)⟩)
      · replace c4 := Bool.eq_false_iff.mpr c4
        subst c4
        have H1 : (hornbeamlaw24_VoteMeans.l0 kj1 l0 4611686018427387904 (-4611686018427387904) l0 (l0.length : Int) 0) = some r := by rw [if_neg (show ¬ (false = true) by decide)] at H; exact H
        clear H
        have H := H1
        clear H1
        have H' := Aside0.mk H
        clear H
        go_wp2
        go_loopg [3, 4, 24] kj1 (fun kq v3 v4 v24 w' => ∃ (x3_2 : Int) (x4_2 : Int) (x24_2 : Int), v3 = .int .i64 x3_2 ∧ v4 = .int .i64 x4_2 ∧ v24 = .int .i64 x24_2 ∧ Aside0 (hornbeamlaw24_VoteMeans.l0 kq l0 x3_2 x4_2 l0 (l0.length : Int) x24_2 = some r) ∧ Aside0 (kq ≤ kj1) ∧ Aside0 (Below w.heap.size w w'))
        case atStart => exact ⟨(4611686018427387904), ((-4611686018427387904)), (0), (by first | rfl | (simp; done) | (simp [*]; done)), (by first | rfl | (simp; done) | (simp [*]; done)), (by first | rfl | (simp; done) | (simp [*]; done)), H', ⟨Nat.le_refl _⟩, ⟨by repeat (first | (with_reducible first | exact HB.out | apply below_alloc | apply pw_below_drewN | apply below_drew1) | exact HB.out)⟩⟩
        case round =>
          clear H'
          try clear c1
          try clear p2
          try clear c3
          try clear c3b0
          try clear c3b1
          try clear c4
          try clear c5
          try clear p2
          obtain ⟨x3_2, x4_2, x24_2, rfl, rfl, rfl, HA, HK2, HB⟩ := hrel
          cases gk with
          | zero => exact absurd HA.out (by simp [hornbeamlaw24_VoteMeans.l0])
          | succ k2 =>
            have H := HA.out
            clear HA
            simp only [hornbeamlaw24_VoteMeans.l0] at H
            by_cases c7 : x24_2 < (l0.length : Int)
            · rw [if_pos c7] at H
              have c7b0 : decide (x24_2 < (l0.length : Int)) = true := decide_eq_true c7
              clear c7
              by_cases c8 : 0 ≤ x24_2
              · rw [if_pos c8] at H
                have c8b0 : decide (0 ≤ x24_2) = true := decide_eq_true c8
                clear c8
                by_cases c9 : x24_2 < (l0.length : Int)
                · rw [if_pos c9] at H
                  have c9b0 : decide (x24_2 < (l0.length : Int)) = true := decide_eq_true c9
                  clear c9
                  have HC10 := Aside0.mk H
                  clear H
                  have p134 : 0 ≤ (x24_2 : Int) := of_decide_eq_true (by first | (with_reducible assumption) | assumption)
                  have q134 : x24_2 < (l0.length : Int) := of_decide_eq_true (by first | (with_reducible assumption) | assumption)
                  obtain ⟨ad134, e134, hx134_0, hx134_1, hx134_2, hx134_3, hx134_4, hx134_5⟩ := at_T31 HR0.out x24_2 p134 q134
                  cases e134
                  replace hx134_0 := (HB.out.cell (World.block_lt_of_cell? w _ hx134_0)).trans hx134_0
                  replace hx134_1 := (HB.out.cell (World.block_lt_of_cell? w _ hx134_1)).trans hx134_1
                  replace hx134_2 := (HB.out.cell (World.block_lt_of_cell? w _ hx134_2)).trans hx134_2
                  replace hx134_3 := (HB.out.cell (World.block_lt_of_cell? w _ hx134_3)).trans hx134_3
                  replace hx134_4 := (HB.out.cell (World.block_lt_of_cell? w _ hx134_4)).trans hx134_4
                  replace hx134_5 := (HB.out.cell (World.block_lt_of_cell? w _ hx134_5)).trans hx134_5
                  replace p134 := eq_true p134
                  replace q134 := eq_true q134
                  go_upto_region 7 with (first | ((with_reducible refine gate_dst (N := 6) rfl ?_); (try (refine gate_guard (by rfl) ?_; dsimp only)); refine box_event ?hg (N := 6) ?hd (cs := #[.int .i64 0, .int .i64 0, .int .i64 0, .int .i64 0, .int .i64 0, .int .i64 0]) (t := 31) ?hr ?_; (case hd => rfl); (case hg => rfl); (case hr => first | (go_simp; done) | (go_simp; rfl)); intro gb135 hg w11 hbox hb; have n0_ := Aside0.mk (below_step (by repeat (first | (with_reducible first | exact HB.out | apply below_alloc | apply pw_below_drewN | apply below_drew1) | exact HB.out)) hb); have n1_ := Aside0.mk (hbox); have n2_ := Aside0.mk ((by rw [hg]; exact (below_size (by repeat (first | (with_reducible first | exact HB.out | apply below_alloc | apply pw_below_drewN | apply below_drew1) | exact HB.out))) : w.heap.size ≤ gb135)); have n3_ := Aside0.mk ((by rw [hg]; exact (below_size (by repeat (first | (with_reducible first | exact HB.out | apply below_alloc | apply pw_below_drewN | apply below_drew1) | exact HB.out))) : w.heap.size ≤ gb135)); clear HB; have HB := n0_; have BK135 := n1_; have GW135 := n2_; have GE135 := n3_; clear n0_ n1_ n2_ n3_; clear hb hbox hg; have hcz12_0 : w11.cell? ⟨gb135, 0, none⟩ = some (.int .i64 0) := (blk_cell BK135.out 0).trans rfl; have hcz12_1 : w11.cell? ⟨gb135, 1, none⟩ = some (.int .i64 0) := (blk_cell BK135.out 1).trans rfl; have hcz12_2 : w11.cell? ⟨gb135, 2, none⟩ = some (.int .i64 0) := (blk_cell BK135.out 2).trans rfl; have hcz12_3 : w11.cell? ⟨gb135, 3, none⟩ = some (.int .i64 0) := (blk_cell BK135.out 3).trans rfl; have hcz12_4 : w11.cell? ⟨gb135, 4, none⟩ = some (.int .i64 0) := (blk_cell BK135.out 4).trans rfl; have hcz12_5 : w11.cell? ⟨gb135, 5, none⟩ = some (.int .i64 0) := (blk_cell BK135.out 5).trans rfl; have hfz12_0 := blk_frozen BK135.out 0; have hfz12_1 := blk_frozen BK135.out 1; have hfz12_2 := blk_frozen BK135.out 2; have hfz12_3 := blk_frozen BK135.out 3; have hfz12_4 := blk_frozen BK135.out 4; have hfz12_5 := blk_frozen BK135.out 5))
                  (try simp only [Act.put, List.setIfInBounds_toArray, List.set_cons_zero, List.set_cons_succ])
                  go_cut [51] (fun v51 wc => ∃ (kq : Nat) (x51_9 : Bool), v51 = .bool x51_9 ∧ Aside0 (hornbeamlaw24_VoteMeans.j2 kq l0 x3_2 x4_2 l0 (l0.length : Int) x24_2 x51_9 ((rd_T31 l0 x24_2).f0) ((rd_T31 l0 x24_2).f1) ((rd_T31 l0 x24_2).f2) ((rd_T31 l0 x24_2).f3) ((rd_T31 l0 x24_2).f4) ((rd_T31 l0 x24_2).f5) = some r) ∧ Aside0 (kq ≤ k2) ∧ Aside0 (wc.heap[gb135]? = some (.cells #[.int .i64 ((rd_T31 l0 x24_2).f0), .int .i64 ((rd_T31 l0 x24_2).f1), .int .i64 ((rd_T31 l0 x24_2).f2), .int .i64 ((rd_T31 l0 x24_2).f3), .int .i64 ((rd_T31 l0 x24_2).f4), .int .i64 ((rd_T31 l0 x24_2).f5)] 31 (0, 0))) ∧ Aside0 (Below w.heap.size w wc))
                  case first =>
                    have H := HC10.out
                    clear HC10
                    by_cases c13 : ((rd_T31 l0 x24_2).f5) < 1
                    · rw [if_pos c13] at H
                      have c13b0 : decide (((rd_T31 l0 x24_2).f5) < 1) = true := decide_eq_true c13
                      clear c13
                      (first | rw [c13b0] | (simp only [i64_w, i32_w]; rw [c13b0]) | skip)
                      have H' := Aside0.mk H
                      clear H
                      have hcz14_0 : w11.cell? ⟨gb135, 0, none⟩ = some (.int .i64 0) := (blk_cell BK135.out 0).trans rfl
                      have hcz14_1 : w11.cell? ⟨gb135, 1, none⟩ = some (.int .i64 0) := (blk_cell BK135.out 1).trans rfl
                      have hcz14_2 : w11.cell? ⟨gb135, 2, none⟩ = some (.int .i64 0) := (blk_cell BK135.out 2).trans rfl
                      have hcz14_3 : w11.cell? ⟨gb135, 3, none⟩ = some (.int .i64 0) := (blk_cell BK135.out 3).trans rfl
                      have hcz14_4 : w11.cell? ⟨gb135, 4, none⟩ = some (.int .i64 0) := (blk_cell BK135.out 4).trans rfl
                      have hcz14_5 : w11.cell? ⟨gb135, 5, none⟩ = some (.int .i64 0) := (blk_cell BK135.out 5).trans rfl
                      have hfz14_0 := blk_frozen BK135.out 0
                      have hfz14_1 := blk_frozen BK135.out 1
                      have hfz14_2 := blk_frozen BK135.out 2
                      have hfz14_3 := blk_frozen BK135.out 3
                      have hfz14_4 := blk_frozen BK135.out 4
                      have hfz14_5 := blk_frozen BK135.out 5
                      go_wp2
                      go_meet
                      case rel => exact ⟨_, (true), (by first | rfl | (simp; done) | (simp [*]; done)), H', ⟨by have := HJ1.out; have := HK2.out; first | omega | exact Nat.le_refl _⟩, ⟨by (with_reducible repeat (first | refine blk_drewN ?_ _ | refine blk_drew ?_ | refine blk_alloc ?_ _)); refine blk_put (cs := #[.int .i64 ((rd_T31 l0 x24_2).f0), .int .i64 ((rd_T31 l0 x24_2).f1), .int .i64 ((rd_T31 l0 x24_2).f2), .int .i64 ((rd_T31 l0 x24_2).f3), .int .i64 ((rd_T31 l0 x24_2).f4), .int .i64 0]) ?_ 5 _ rfl; (with_reducible repeat (first | refine blk_drewN ?_ _ | refine blk_drew ?_ | refine blk_alloc ?_ _)); refine blk_put (cs := #[.int .i64 ((rd_T31 l0 x24_2).f0), .int .i64 ((rd_T31 l0 x24_2).f1), .int .i64 ((rd_T31 l0 x24_2).f2), .int .i64 ((rd_T31 l0 x24_2).f3), .int .i64 0, .int .i64 0]) ?_ 4 _ rfl; (with_reducible repeat (first | refine blk_drewN ?_ _ | refine blk_drew ?_ | refine blk_alloc ?_ _)); refine blk_put (cs := #[.int .i64 ((rd_T31 l0 x24_2).f0), .int .i64 ((rd_T31 l0 x24_2).f1), .int .i64 ((rd_T31 l0 x24_2).f2), .int .i64 0, .int .i64 0, .int .i64 0]) ?_ 3 _ rfl; (with_reducible repeat (first | refine blk_drewN ?_ _ | refine blk_drew ?_ | refine blk_alloc ?_ _)); refine blk_put (cs := #[.int .i64 ((rd_T31 l0 x24_2).f0), .int .i64 ((rd_T31 l0 x24_2).f1), .int .i64 0, .int .i64 0, .int .i64 0, .int .i64 0]) ?_ 2 _ rfl; (with_reducible repeat (first | refine blk_drewN ?_ _ | refine blk_drew ?_ | refine blk_alloc ?_ _)); refine blk_put (cs := #[.int .i64 ((rd_T31 l0 x24_2).f0), .int .i64 0, .int .i64 0, .int .i64 0, .int .i64 0, .int .i64 0]) ?_ 1 _ rfl; (with_reducible repeat (first | refine blk_drewN ?_ _ | refine blk_drew ?_ | refine blk_alloc ?_ _)); refine blk_put (cs := #[.int .i64 0, .int .i64 0, .int .i64 0, .int .i64 0, .int .i64 0, .int .i64 0]) ?_ 0 _ rfl; (with_reducible repeat (first | refine blk_drewN ?_ _ | refine blk_drew ?_ | refine blk_alloc ?_ _)); exact BK135.out⟩, ⟨by repeat (first | (with_reducible first | exact HB.out | apply below_alloc | apply pw_below_drewN | apply below_drew1 | refine below_set ?_ GE135.out) | exact HB.out)⟩⟩
                    · rw [if_neg c13] at H
                      have c13b0 : decide (((rd_T31 l0 x24_2).f5) < 1) = false := decide_eq_false c13
                      clear c13
                      (first | rw [c13b0] | (simp only [i64_w, i32_w]; rw [c13b0]) | skip)
                      by_cases c15 : ((rd_T31 l0 x24_2).f5) > 1048576
                      · rw [if_pos c15] at H
                        have c15b0 : decide (1048576 < ((rd_T31 l0 x24_2).f5)) = true := decide_eq_true c15
                        clear c15
                        have H' := Aside0.mk H
                        clear H
                        have hcz16_0 : w11.cell? ⟨gb135, 0, none⟩ = some (.int .i64 0) := (blk_cell BK135.out 0).trans rfl
                        have hcz16_1 : w11.cell? ⟨gb135, 1, none⟩ = some (.int .i64 0) := (blk_cell BK135.out 1).trans rfl
                        have hcz16_2 : w11.cell? ⟨gb135, 2, none⟩ = some (.int .i64 0) := (blk_cell BK135.out 2).trans rfl
                        have hcz16_3 : w11.cell? ⟨gb135, 3, none⟩ = some (.int .i64 0) := (blk_cell BK135.out 3).trans rfl
                        have hcz16_4 : w11.cell? ⟨gb135, 4, none⟩ = some (.int .i64 0) := (blk_cell BK135.out 4).trans rfl
                        have hcz16_5 : w11.cell? ⟨gb135, 5, none⟩ = some (.int .i64 0) := (blk_cell BK135.out 5).trans rfl
                        have hfz16_0 := blk_frozen BK135.out 0
                        have hfz16_1 := blk_frozen BK135.out 1
                        have hfz16_2 := blk_frozen BK135.out 2
                        have hfz16_3 := blk_frozen BK135.out 3
                        have hfz16_4 := blk_frozen BK135.out 4
                        have hfz16_5 := blk_frozen BK135.out 5
                        go_wp2
                        go_meet
                        case rel => exact ⟨_, (true), (by first | rfl | (simp; done) | (simp [*]; done)), H', ⟨by have := HJ1.out; have := HK2.out; first | omega | exact Nat.le_refl _⟩, ⟨by (with_reducible repeat (first | refine blk_drewN ?_ _ | refine blk_drew ?_ | refine blk_alloc ?_ _)); refine blk_put (cs := #[.int .i64 ((rd_T31 l0 x24_2).f0), .int .i64 ((rd_T31 l0 x24_2).f1), .int .i64 ((rd_T31 l0 x24_2).f2), .int .i64 ((rd_T31 l0 x24_2).f3), .int .i64 ((rd_T31 l0 x24_2).f4), .int .i64 0]) ?_ 5 _ rfl; (with_reducible repeat (first | refine blk_drewN ?_ _ | refine blk_drew ?_ | refine blk_alloc ?_ _)); refine blk_put (cs := #[.int .i64 ((rd_T31 l0 x24_2).f0), .int .i64 ((rd_T31 l0 x24_2).f1), .int .i64 ((rd_T31 l0 x24_2).f2), .int .i64 ((rd_T31 l0 x24_2).f3), .int .i64 0, .int .i64 0]) ?_ 4 _ rfl; (with_reducible repeat (first | refine blk_drewN ?_ _ | refine blk_drew ?_ | refine blk_alloc ?_ _)); refine blk_put (cs := #[.int .i64 ((rd_T31 l0 x24_2).f0), .int .i64 ((rd_T31 l0 x24_2).f1), .int .i64 ((rd_T31 l0 x24_2).f2), .int .i64 0, .int .i64 0, .int .i64 0]) ?_ 3 _ rfl; (with_reducible repeat (first | refine blk_drewN ?_ _ | refine blk_drew ?_ | refine blk_alloc ?_ _)); refine blk_put (cs := #[.int .i64 ((rd_T31 l0 x24_2).f0), .int .i64 ((rd_T31 l0 x24_2).f1), .int .i64 0, .int .i64 0, .int .i64 0, .int .i64 0]) ?_ 2 _ rfl; (with_reducible repeat (first | refine blk_drewN ?_ _ | refine blk_drew ?_ | refine blk_alloc ?_ _)); refine blk_put (cs := #[.int .i64 ((rd_T31 l0 x24_2).f0), .int .i64 0, .int .i64 0, .int .i64 0, .int .i64 0, .int .i64 0]) ?_ 1 _ rfl; (with_reducible repeat (first | refine blk_drewN ?_ _ | refine blk_drew ?_ | refine blk_alloc ?_ _)); refine blk_put (cs := #[.int .i64 0, .int .i64 0, .int .i64 0, .int .i64 0, .int .i64 0, .int .i64 0]) ?_ 0 _ rfl; (with_reducible repeat (first | refine blk_drewN ?_ _ | refine blk_drew ?_ | refine blk_alloc ?_ _)); exact BK135.out⟩, ⟨by repeat (first | (with_reducible first | exact HB.out | apply below_alloc | apply pw_below_drewN | apply below_drew1 | refine below_set ?_ GE135.out) | exact HB.out)⟩⟩
                      · rw [if_neg c15] at H
                        have c15b0 : decide (1048576 < ((rd_T31 l0 x24_2).f5)) = false := decide_eq_false c15
                        clear c15
                        by_cases c17 : ((rd_T31 l0 x24_2).f4) > (wrap64 (1048576 * ((rd_T31 l0 x24_2).f5)))
                        · rw [if_pos c17] at H
                          have c17b0 : decide ((wrap64 (1048576 * ((rd_T31 l0 x24_2).f5))) < ((rd_T31 l0 x24_2).f4)) = true := decide_eq_true c17
                          clear c17
                          have H' := Aside0.mk H
                          clear H
                          have hcz18_0 : w11.cell? ⟨gb135, 0, none⟩ = some (.int .i64 0) := (blk_cell BK135.out 0).trans rfl
                          have hcz18_1 : w11.cell? ⟨gb135, 1, none⟩ = some (.int .i64 0) := (blk_cell BK135.out 1).trans rfl
                          have hcz18_2 : w11.cell? ⟨gb135, 2, none⟩ = some (.int .i64 0) := (blk_cell BK135.out 2).trans rfl
                          have hcz18_3 : w11.cell? ⟨gb135, 3, none⟩ = some (.int .i64 0) := (blk_cell BK135.out 3).trans rfl
                          have hcz18_4 : w11.cell? ⟨gb135, 4, none⟩ = some (.int .i64 0) := (blk_cell BK135.out 4).trans rfl
                          have hcz18_5 : w11.cell? ⟨gb135, 5, none⟩ = some (.int .i64 0) := (blk_cell BK135.out 5).trans rfl
                          have hfz18_0 := blk_frozen BK135.out 0
                          have hfz18_1 := blk_frozen BK135.out 1
                          have hfz18_2 := blk_frozen BK135.out 2
                          have hfz18_3 := blk_frozen BK135.out 3
                          have hfz18_4 := blk_frozen BK135.out 4
                          have hfz18_5 := blk_frozen BK135.out 5
                          go_wp2
                          go_meet
                          case rel => exact ⟨_, (true), (by first | rfl | (simp; done) | (simp [*]; done)), H', ⟨by have := HJ1.out; have := HK2.out; first | omega | exact Nat.le_refl _⟩, ⟨by (with_reducible repeat (first | refine blk_drewN ?_ _ | refine blk_drew ?_ | refine blk_alloc ?_ _)); refine blk_put (cs := #[.int .i64 ((rd_T31 l0 x24_2).f0), .int .i64 ((rd_T31 l0 x24_2).f1), .int .i64 ((rd_T31 l0 x24_2).f2), .int .i64 ((rd_T31 l0 x24_2).f3), .int .i64 ((rd_T31 l0 x24_2).f4), .int .i64 0]) ?_ 5 _ rfl; (with_reducible repeat (first | refine blk_drewN ?_ _ | refine blk_drew ?_ | refine blk_alloc ?_ _)); refine blk_put (cs := #[.int .i64 ((rd_T31 l0 x24_2).f0), .int .i64 ((rd_T31 l0 x24_2).f1), .int .i64 ((rd_T31 l0 x24_2).f2), .int .i64 ((rd_T31 l0 x24_2).f3), .int .i64 0, .int .i64 0]) ?_ 4 _ rfl; (with_reducible repeat (first | refine blk_drewN ?_ _ | refine blk_drew ?_ | refine blk_alloc ?_ _)); refine blk_put (cs := #[.int .i64 ((rd_T31 l0 x24_2).f0), .int .i64 ((rd_T31 l0 x24_2).f1), .int .i64 ((rd_T31 l0 x24_2).f2), .int .i64 0, .int .i64 0, .int .i64 0]) ?_ 3 _ rfl; (with_reducible repeat (first | refine blk_drewN ?_ _ | refine blk_drew ?_ | refine blk_alloc ?_ _)); refine blk_put (cs := #[.int .i64 ((rd_T31 l0 x24_2).f0), .int .i64 ((rd_T31 l0 x24_2).f1), .int .i64 0, .int .i64 0, .int .i64 0, .int .i64 0]) ?_ 2 _ rfl; (with_reducible repeat (first | refine blk_drewN ?_ _ | refine blk_drew ?_ | refine blk_alloc ?_ _)); refine blk_put (cs := #[.int .i64 ((rd_T31 l0 x24_2).f0), .int .i64 0, .int .i64 0, .int .i64 0, .int .i64 0, .int .i64 0]) ?_ 1 _ rfl; (with_reducible repeat (first | refine blk_drewN ?_ _ | refine blk_drew ?_ | refine blk_alloc ?_ _)); refine blk_put (cs := #[.int .i64 0, .int .i64 0, .int .i64 0, .int .i64 0, .int .i64 0, .int .i64 0]) ?_ 0 _ rfl; (with_reducible repeat (first | refine blk_drewN ?_ _ | refine blk_drew ?_ | refine blk_alloc ?_ _)); exact BK135.out⟩, ⟨by repeat (first | (with_reducible first | exact HB.out | apply below_alloc | apply pw_below_drewN | apply below_drew1 | refine below_set ?_ GE135.out) | exact HB.out)⟩⟩
                        · rw [if_neg c17] at H
                          have c17b0 : decide ((wrap64 (1048576 * ((rd_T31 l0 x24_2).f5))) < ((rd_T31 l0 x24_2).f4)) = false := decide_eq_false c17
                          clear c17
                          have H' := Aside0.mk H
                          clear H
                          have hcz19_0 : w11.cell? ⟨gb135, 0, none⟩ = some (.int .i64 0) := (blk_cell BK135.out 0).trans rfl
                          have hcz19_1 : w11.cell? ⟨gb135, 1, none⟩ = some (.int .i64 0) := (blk_cell BK135.out 1).trans rfl
                          have hcz19_2 : w11.cell? ⟨gb135, 2, none⟩ = some (.int .i64 0) := (blk_cell BK135.out 2).trans rfl
                          have hcz19_3 : w11.cell? ⟨gb135, 3, none⟩ = some (.int .i64 0) := (blk_cell BK135.out 3).trans rfl
                          have hcz19_4 : w11.cell? ⟨gb135, 4, none⟩ = some (.int .i64 0) := (blk_cell BK135.out 4).trans rfl
                          have hcz19_5 : w11.cell? ⟨gb135, 5, none⟩ = some (.int .i64 0) := (blk_cell BK135.out 5).trans rfl
                          have hfz19_0 := blk_frozen BK135.out 0
                          have hfz19_1 := blk_frozen BK135.out 1
                          have hfz19_2 := blk_frozen BK135.out 2
                          have hfz19_3 := blk_frozen BK135.out 3
                          have hfz19_4 := blk_frozen BK135.out 4
                          have hfz19_5 := blk_frozen BK135.out 5
                          go_wp2
                          go_meet
                          case rel => exact ⟨_, (decide (((rd_T31 l0 x24_2).f4) < (wrap64 ((-1048576) * ((rd_T31 l0 x24_2).f5))))), (by first | rfl | (simp; done) | (simp [*]; done)), H', ⟨by have := HJ1.out; have := HK2.out; first | omega | exact Nat.le_refl _⟩, ⟨by (with_reducible repeat (first | refine blk_drewN ?_ _ | refine blk_drew ?_ | refine blk_alloc ?_ _)); refine blk_put (cs := #[.int .i64 ((rd_T31 l0 x24_2).f0), .int .i64 ((rd_T31 l0 x24_2).f1), .int .i64 ((rd_T31 l0 x24_2).f2), .int .i64 ((rd_T31 l0 x24_2).f3), .int .i64 ((rd_T31 l0 x24_2).f4), .int .i64 0]) ?_ 5 _ rfl; (with_reducible repeat (first | refine blk_drewN ?_ _ | refine blk_drew ?_ | refine blk_alloc ?_ _)); refine blk_put (cs := #[.int .i64 ((rd_T31 l0 x24_2).f0), .int .i64 ((rd_T31 l0 x24_2).f1), .int .i64 ((rd_T31 l0 x24_2).f2), .int .i64 ((rd_T31 l0 x24_2).f3), .int .i64 0, .int .i64 0]) ?_ 4 _ rfl; (with_reducible repeat (first | refine blk_drewN ?_ _ | refine blk_drew ?_ | refine blk_alloc ?_ _)); refine blk_put (cs := #[.int .i64 ((rd_T31 l0 x24_2).f0), .int .i64 ((rd_T31 l0 x24_2).f1), .int .i64 ((rd_T31 l0 x24_2).f2), .int .i64 0, .int .i64 0, .int .i64 0]) ?_ 3 _ rfl; (with_reducible repeat (first | refine blk_drewN ?_ _ | refine blk_drew ?_ | refine blk_alloc ?_ _)); refine blk_put (cs := #[.int .i64 ((rd_T31 l0 x24_2).f0), .int .i64 ((rd_T31 l0 x24_2).f1), .int .i64 0, .int .i64 0, .int .i64 0, .int .i64 0]) ?_ 2 _ rfl; (with_reducible repeat (first | refine blk_drewN ?_ _ | refine blk_drew ?_ | refine blk_alloc ?_ _)); refine blk_put (cs := #[.int .i64 ((rd_T31 l0 x24_2).f0), .int .i64 0, .int .i64 0, .int .i64 0, .int .i64 0, .int .i64 0]) ?_ 1 _ rfl; (with_reducible repeat (first | refine blk_drewN ?_ _ | refine blk_drew ?_ | refine blk_alloc ?_ _)); refine blk_put (cs := #[.int .i64 0, .int .i64 0, .int .i64 0, .int .i64 0, .int .i64 0, .int .i64 0]) ?_ 0 _ rfl; (with_reducible repeat (first | refine blk_drewN ?_ _ | refine blk_drew ?_ | refine blk_alloc ?_ _)); exact BK135.out⟩, ⟨by repeat (first | (with_reducible first | exact HB.out | apply below_alloc | apply pw_below_drewN | apply below_drew1 | refine below_set ?_ GE135.out) | exact HB.out)⟩⟩
                  case rest =>
                    clear HC10
                    try clear c1
                    try clear p1
                    try clear q1
                    try clear hx1
                    try clear p2
                    try clear c3
                    try clear c3b0
                    try clear c3b1
                    try clear c4
                    try clear c5
                    try clear p6
                    try clear c7
                    try clear c7b0
                    try clear c8
                    try clear c8b0
                    try clear c9
                    try clear c9b0
                    try clear c13
                    try clear c13b0
                    try clear p13
                    try clear q13
                    try clear hx13
                    try clear c15
                    try clear c15b0
                    try clear c17
                    try clear c17b0
                    try clear hcz12_0
                    try clear hcz12_1
                    try clear hcz12_2
                    try clear hcz12_3
                    try clear hcz12_4
                    try clear hcz12_5
                    try clear hcz14_0
                    try clear hcz14_1
                    try clear hcz14_2
                    try clear hcz14_3
                    try clear hcz14_4
                    try clear hcz14_5
                    try clear hcz16_0
                    try clear hcz16_1
                    try clear hcz16_2
                    try clear hcz16_3
                    try clear hcz16_4
                    try clear hcz16_5
                    try clear hcz18_0
                    try clear hcz18_1
                    try clear hcz18_2
                    try clear hcz18_3
                    try clear hcz18_4
                    try clear hcz18_5
                    try clear hcz19_0
                    try clear hcz19_1
                    try clear hcz19_2
                    try clear hcz19_3
                    try clear hcz19_4
                    try clear hcz19_5
                    try clear hfz12_0
                    try clear hfz12_1
                    try clear hfz12_2
                    try clear hfz12_3
                    try clear hfz12_4
                    try clear hfz12_5
                    try clear hfz14_0
                    try clear hfz14_1
                    try clear hfz14_2
                    try clear hfz14_3
                    try clear hfz14_4
                    try clear hfz14_5
                    try clear hfz16_0
                    try clear hfz16_1
                    try clear hfz16_2
                    try clear hfz16_3
                    try clear hfz16_4
                    try clear hfz16_5
                    try clear hfz18_0
                    try clear hfz18_1
                    try clear hfz18_2
                    try clear hfz18_3
                    try clear hfz18_4
                    try clear hfz18_5
                    try clear hfz19_0
                    try clear hfz19_1
                    try clear hfz19_2
                    try clear hfz19_3
                    try clear hfz19_4
                    try clear hfz19_5
                    try clear hx134_0
                    try clear hx134_1
                    try clear hx134_2
                    try clear hx134_3
                    try clear hx134_4
                    try clear hx134_5
                    try clear p134
                    try clear p2
                    try clear q134
                    obtain ⟨kq, x51_9, rfl, HA, HJ9, BK135, HB⟩ := hcut
                    cases kq with
                    | zero => exact absurd HA.out (by simp [hornbeamlaw24_VoteMeans.j2])
                    | succ kj9 =>
                      have H := HA.out
                      clear HA
                      simp only [hornbeamlaw24_VoteMeans.j2] at H
                      by_cases c20 : x51_9 = true
                      · subst c20
                        have H1 : ((hornbeamlaw24_fixed.f kj9).bind fun t136 => (some t136)) = some r := by rw [if_pos rfl] at H; exact H
                        clear H
                        have H := H1
                        clear H1
                        replace H := Option.bind_eq_some_iff.mp H
                        obtain ⟨t136, A210, H⟩ := H
                        replace H : (some t136) = some r := H
                        have A21 := Aside0.mk A210
                        clear A210
                        obtain rfl := Option.some.inj H
                        go_wp2_with (first | ((with_reducible refine gate_callee (f := 13) rfl ?_); refine goesL_ (some 52) rfl rfl Try.func13 (by kernel_rfl) rfl #[] rfl (by (try simp only [List.map_toArray, List.map_cons, List.map_nil]); first | done | rfl | (simp only [List.length_drop, List.length_take]; rfl)) ?_; (with_reducible refine (hornbeamlaw24_fixed.calls kj9  t136 _ A21.out).mono ?_); rintro e w22 ⟨rfl, hb⟩; refine ⟨_, rfl, ?_⟩; have n0_ := Aside0.mk (blk_below (g := gb135) (o := .cells #[.int .i64 ((rd_T31 l0 x24_2).f0), .int .i64 ((rd_T31 l0 x24_2).f1), .int .i64 ((rd_T31 l0 x24_2).f2), .int .i64 ((rd_T31 l0 x24_2).f3), .int .i64 ((rd_T31 l0 x24_2).f4), .int .i64 ((rd_T31 l0 x24_2).f5)] 31 (0, 0)) (by (with_reducible repeat (first | refine blk_drewN ?_ _ | refine blk_drew ?_ | refine blk_alloc ?_ _)); exact BK135.out) hb); have n1_ := Aside0.mk (below_step (by repeat (first | (with_reducible first | exact HB.out | apply below_alloc | apply pw_below_drewN | apply below_drew1 | refine below_set ?_ GE135.out) | exact HB.out)) hb); clear BK135; clear HB; have BK135 := n0_; have HB := n1_; clear n0_ n1_; (try clear hb); (try clear hb2); (try clear hk); (try clear hi)))
                        all_goals (go_ret; exact ⟨by first | rfl | (simp [errW_none, errW_some] <;> rfl) | (simp [*, errW_none, errW_some] <;> rfl) | (simp_all; done), by repeat (first | (with_reducible first | exact HB.out | apply below_alloc | apply pw_below_drewN | apply below_drew1 | refine below_set ?_ GE135.out) | exact HB.out)⟩)
                      · replace c20 := Bool.eq_false_iff.mpr c20
                        subst c20
                        have H1 : ((vote_Mean.f kj9 (([(⟨((rd_T31 l0 x24_2).f0), ((rd_T31 l0 x24_2).f1), ((rd_T31 l0 x24_2).f2), ((rd_T31 l0 x24_2).f3), ((rd_T31 l0 x24_2).f4), ((rd_T31 l0 x24_2).f5)⟩ : S31)] : List (S31)))).bind fun bt140 => (if bt140.2 = 0 then (if (wrap64 (bt140.1 * ((rd_T31 l0 x24_2).f5))) > ((rd_T31 l0 x24_2).f4) then (some false) else (if (wrap64 ((wrap64 (bt140.1 + 1)) * ((rd_T31 l0 x24_2).f5))) ≤ ((rd_T31 l0 x24_2).f4) then (some false) else (hornbeamlaw24_VoteMeans.l0 kj9 l0 (mn x3_2 bt140.1) (mx x4_2 bt140.1) l0 (l0.length : Int) (wrap64 (x24_2 + 1))))) else (some false))) = some r := by rw [if_neg (show ¬ (false = true) by decide)] at H; exact H
                        clear H
                        have H := H1
                        clear H1
                        obtain ⟨y137, hy137⟩ : ∃ y_ : List (S31), y_ = (([(⟨((rd_T31 l0 x24_2).f0), ((rd_T31 l0 x24_2).f1), ((rd_T31 l0 x24_2).f2), ((rd_T31 l0 x24_2).f3), ((rd_T31 l0 x24_2).f4), ((rd_T31 l0 x24_2).f5)⟩ : S31)] : List (S31))) := ⟨_, rfl⟩
                        replace H : ((vote_Mean.f kj9 y137).bind fun bt140 => (if bt140.2 = 0 then (if (wrap64 (bt140.1 * ((rd_T31 l0 x24_2).f5))) > ((rd_T31 l0 x24_2).f4) then (some false) else (if (wrap64 ((wrap64 (bt140.1 + 1)) * ((rd_T31 l0 x24_2).f5))) ≤ ((rd_T31 l0 x24_2).f4) then (some false) else (hornbeamlaw24_VoteMeans.l0 kj9 l0 (mn x3_2 bt140.1) (mx x4_2 bt140.1) l0 (l0.length : Int) (wrap64 (x24_2 + 1))))) else (some false))) = some r := by first | (rw [hy137]; with_reducible exact H) | (have H2_ := (Option.bind_some _ _).symm.trans H; rw [hy137]; with_reducible exact H2_) | (have H2_ := (Option.bind_some _ _).symm.trans H; with_reducible exact H2_) | with_reducible exact H | (rw [hy137]; exact H) | exact H
                        have Ny137 := Aside0.mk hy137
                        clear hy137
                        replace H := Option.bind_eq_some_iff.mp H
                        obtain ⟨⟨t140, t141⟩, A230, H⟩ := H
                        replace H : (if t141 = 0 then (if (wrap64 (t140 * ((rd_T31 l0 x24_2).f5))) > ((rd_T31 l0 x24_2).f4) then (some false) else (if (wrap64 ((wrap64 (t140 + 1)) * ((rd_T31 l0 x24_2).f5))) ≤ ((rd_T31 l0 x24_2).f4) then (some false) else (hornbeamlaw24_VoteMeans.l0 kj9 l0 (mn x3_2 t140) (mx x4_2 t140) l0 (l0.length : Int) (wrap64 (x24_2 + 1))))) else (some false)) = some r := H
                        have A23 := Aside0.mk A230
                        clear A230
                        by_cases c24 : t141 = 0
                        · rw [if_pos c24] at H
                          have c24b0 : (t141 == 0) = true := beq_iff_eq.mpr c24
                          have c24b1 : (t141 != 0) = false := bne_eq_false_iff_eq.mpr c24
                          clear c24
                          by_cases c25 : (wrap64 (t140 * ((rd_T31 l0 x24_2).f5))) > ((rd_T31 l0 x24_2).f4)
                          · rw [if_pos c25] at H
                            have c25b0 : decide (((rd_T31 l0 x24_2).f4) < (wrap64 (t140 * ((rd_T31 l0 x24_2).f5)))) = true := decide_eq_true c25
                            clear c25
                            exact absurd (Option.some.inj H) (by rw [HR_.out]; decide)
                          · rw [if_neg c25] at H
                            have c25b0 : decide (((rd_T31 l0 x24_2).f4) < (wrap64 (t140 * ((rd_T31 l0 x24_2).f5)))) = false := decide_eq_false c25
                            clear c25
                            by_cases c26 : (wrap64 ((wrap64 (t140 + 1)) * ((rd_T31 l0 x24_2).f5))) ≤ ((rd_T31 l0 x24_2).f4)
                            · rw [if_pos c26] at H
                              have c26b0 : decide ((wrap64 ((wrap64 (t140 + 1)) * ((rd_T31 l0 x24_2).f5))) ≤ ((rd_T31 l0 x24_2).f4)) = true := decide_eq_true c26
                              clear c26
                              exact absurd (Option.some.inj H) (by rw [HR_.out]; decide)
                            · rw [if_neg c26] at H
                              have c26b0 : decide ((wrap64 ((wrap64 (t140 + 1)) * ((rd_T31 l0 x24_2).f5))) ≤ ((rd_T31 l0 x24_2).f4)) = false := decide_eq_false c26
                              clear c26
                              obtain ⟨ji27, hji27⟩ : ∃ j_ : Int, (mn x3_2 t140) = j_ := ⟨_, rfl⟩
                              replace H : (hornbeamlaw24_VoteMeans.l0 kj9 l0 ji27 (mx x4_2 t140) l0 (l0.length : Int) (wrap64 (x24_2 + 1))) = some r := by first | (rw [hji27] at H; exact H) | (simp only [hji27] at H ⊢; exact H)
                              (try rw [hji27] at A23)
                              have hji27_ : (if t140 < x3_2 then t140 else x3_2) = ji27 := hji27
                              obtain ⟨ji28, hji28⟩ : ∃ j_ : Int, (mx x4_2 t140) = j_ := ⟨_, rfl⟩
                              replace H : (hornbeamlaw24_VoteMeans.l0 kj9 l0 ji27 ji28 l0 (l0.length : Int) (wrap64 (x24_2 + 1))) = some r := by first | (rw [hji28] at H; exact H) | (simp only [hji28] at H ⊢; exact H)
                              (try rw [hji28] at A23)
                              have hji28_ : (if x4_2 < t140 then t140 else x4_2) = ji28 := hji28
                              have H' := Aside0.mk H
                              clear H
                              have hcz29_0 : wc.cell? ⟨gb135, 0, none⟩ = some (.int .i64 ((rd_T31 l0 x24_2).f0)) := (blk_cell BK135.out 0).trans rfl
                              have hcz29_1 : wc.cell? ⟨gb135, 1, none⟩ = some (.int .i64 ((rd_T31 l0 x24_2).f1)) := (blk_cell BK135.out 1).trans rfl
                              have hcz29_2 : wc.cell? ⟨gb135, 2, none⟩ = some (.int .i64 ((rd_T31 l0 x24_2).f2)) := (blk_cell BK135.out 2).trans rfl
                              have hcz29_3 : wc.cell? ⟨gb135, 3, none⟩ = some (.int .i64 ((rd_T31 l0 x24_2).f3)) := (blk_cell BK135.out 3).trans rfl
                              have hcz29_4 : wc.cell? ⟨gb135, 4, none⟩ = some (.int .i64 ((rd_T31 l0 x24_2).f4)) := (blk_cell BK135.out 4).trans rfl
                              have hcz29_5 : wc.cell? ⟨gb135, 5, none⟩ = some (.int .i64 ((rd_T31 l0 x24_2).f5)) := (blk_cell BK135.out 5).trans rfl
                              have hfz29_0 := blk_frozen BK135.out 0
                              have hfz29_1 := blk_frozen BK135.out 1
                              have hfz29_2 := blk_frozen BK135.out 2
                              have hfz29_3 := blk_frozen BK135.out 3
                              have hfz29_4 := blk_frozen BK135.out 4
                              have hfz29_5 := blk_frozen BK135.out 5
                              go_wp2_with (first | ((with_reducible refine gate_dst (N := 55) rfl ?_); (try (refine gate_guard (by rfl) ?_; dsimp only)); refine Kd.R_lit k31 _ 31 ?hg (N := 55) ?hd (xs := ([(⟨((rd_T31 l0 x24_2).f0), ((rd_T31 l0 x24_2).f1), ((rd_T31 l0 x24_2).f2), ((rd_T31 l0 x24_2).f3), ((rd_T31 l0 x24_2).f4), ((rd_T31 l0 x24_2).f5)⟩ : S31)] : List (S31))) (inner := [.int .i64 ((rd_T31 l0 x24_2).f0), .int .i64 ((rd_T31 l0 x24_2).f1), .int .i64 ((rd_T31 l0 x24_2).f2), .int .i64 ((rd_T31 l0 x24_2).f3), .int .i64 ((rd_T31 l0 x24_2).f4), .int .i64 ((rd_T31 l0 x24_2).f5)]) (ok := fun _ => True) (okp := fun _ => True) ?hr ?hp (fun _ hk => hk) trivial (Below.refl _ _) (Nat.le_refl _) (by simp) ?_; (case hd => rfl); (case hg => rfl); (case hr => first | (go_simp; done) | (go_simp; rfl)); (case hp => exact (Reps.c6 (show Kd.M k31 _ _ _ (⟨((rd_T31 l0 x24_2).f0), ((rd_T31 l0 x24_2).f1), ((rd_T31 l0 x24_2).f2), ((rd_T31 l0 x24_2).f3), ((rd_T31 l0 x24_2).f4), ((rd_T31 l0 x24_2).f5)⟩ : S31) [.int .i64 ((rd_T31 l0 x24_2).f0), .int .i64 ((rd_T31 l0 x24_2).f1), .int .i64 ((rd_T31 l0 x24_2).f2), .int .i64 ((rd_T31 l0 x24_2).f3), .int .i64 ((rd_T31 l0 x24_2).f4), .int .i64 ((rd_T31 l0 x24_2).f5)] from (k31_mkM _ _ _ (⟨((rd_T31 l0 x24_2).f0), ((rd_T31 l0 x24_2).f1), ((rd_T31 l0 x24_2).f2), ((rd_T31 l0 x24_2).f3), ((rd_T31 l0 x24_2).f4), ((rd_T31 l0 x24_2).f5)⟩ : S31) )) (Reps.none _ _))); intro v138 w30 ho31 hb hg_ hnew_; clear hg_ hnew_; (first | rw [← Ny137.out] at ho31 | (simp only [Int.reduceToNat] at ho31; rw [← Ny137.out] at ho31)); have n0_ := Aside0.mk (Kd.R_lower (Kd.R_newB ho31 (g := gb135) (o := .cells #[.int .i64 ((rd_T31 l0 x24_2).f0), .int .i64 ((rd_T31 l0 x24_2).f1), .int .i64 ((rd_T31 l0 x24_2).f2), .int .i64 ((rd_T31 l0 x24_2).f3), .int .i64 ((rd_T31 l0 x24_2).f4), .int .i64 ((rd_T31 l0 x24_2).f5)] 31 (0, 0)) (by (with_reducible repeat (first | refine blk_drewN ?_ _ | refine blk_drew ?_ | refine blk_alloc ?_ _)); exact BK135.out)) (below_size (by repeat (first | (with_reducible first | exact HB.out | apply below_alloc | apply pw_below_drewN | apply below_drew1 | refine below_set ?_ GE135.out) | exact HB.out)))); have n1_ := Aside0.mk (blk_below (g := gb135) (o := .cells #[.int .i64 ((rd_T31 l0 x24_2).f0), .int .i64 ((rd_T31 l0 x24_2).f1), .int .i64 ((rd_T31 l0 x24_2).f2), .int .i64 ((rd_T31 l0 x24_2).f3), .int .i64 ((rd_T31 l0 x24_2).f4), .int .i64 ((rd_T31 l0 x24_2).f5)] 31 (0, 0)) (by (with_reducible repeat (first | refine blk_drewN ?_ _ | refine blk_drew ?_ | refine blk_alloc ?_ _)); exact BK135.out) hb); have n2_ := Aside0.mk (below_step (by repeat (first | (with_reducible first | exact HB.out | apply below_alloc | apply pw_below_drewN | apply below_drew1 | refine below_set ?_ GE135.out) | exact HB.out)) hb); clear BK135; clear HB; have HO139 := n0_; have BK135 := n1_; have HB := n2_; clear n0_ n1_ n2_; clear hb ho31; obtain ⟨Ao32, co32, eo32⟩ := Kd.R_slice HO139.out; subst eo32) | ((with_reducible refine gate_callee (f := 15) rfl ?_); refine goesL_ (some 56) rfl rfl Try.func15 (by kernel_rfl) rfl #[.slice Ao32 y137.length co32] rfl (by (try simp only [List.map_toArray, List.map_cons, List.map_nil]); first | done | rfl | (simp only [List.length_drop, List.length_take]; rfl)) ?_; (with_reducible refine (vote_Mean.calls kj9 _ _ y137 t140 t141 _ ?side1 ?side2 A23.out).mono ?_); (case side1 => repeat (first | exact (Kd.R_reads' HO139.out).2.2 | (with_reducible refine Kd.C_alloc ?_ _) | (with_reducible refine Kd.C_drewN ?_ _) | (with_reducible refine Kd.C_drew ?_))); (case side2 => exact (Kd.R_reads' HO139.out).2.1); rintro e w33 ⟨rfl, hb⟩; refine ⟨_, rfl, ?_⟩; have n0_ := Aside0.mk (Kd.R_below (by (with_reducible repeat (first | apply Kd.R_alloc | apply Kd.R_drewN | apply Kd.R_drew)); exact HO139.out) hb); have n1_ := Aside0.mk (blk_below (g := gb135) (o := .cells #[.int .i64 ((rd_T31 l0 x24_2).f0), .int .i64 ((rd_T31 l0 x24_2).f1), .int .i64 ((rd_T31 l0 x24_2).f2), .int .i64 ((rd_T31 l0 x24_2).f3), .int .i64 ((rd_T31 l0 x24_2).f4), .int .i64 ((rd_T31 l0 x24_2).f5)] 31 (0, 0)) (by (with_reducible repeat (first | refine blk_drewN ?_ _ | refine blk_drew ?_ | refine blk_alloc ?_ _)); exact BK135.out) hb); have n2_ := Aside0.mk (below_step (by repeat (first | (with_reducible first | exact HB.out | apply below_alloc | apply pw_below_drewN | apply below_drew1 | refine below_set ?_ GE135.out) | exact HB.out)) hb); clear HO139; clear BK135; clear HB; have HO139 := n0_; have BK135 := n1_; have HB := n2_; clear n0_ n1_ n2_; (try clear hb); (try clear hb2); (try clear hk); (try clear hi); have hcz34_0 : w33.cell? ⟨gb135, 0, none⟩ = some (.int .i64 ((rd_T31 l0 x24_2).f0)) := (blk_cell BK135.out 0).trans rfl; have hcz34_1 : w33.cell? ⟨gb135, 1, none⟩ = some (.int .i64 ((rd_T31 l0 x24_2).f1)) := (blk_cell BK135.out 1).trans rfl; have hcz34_2 : w33.cell? ⟨gb135, 2, none⟩ = some (.int .i64 ((rd_T31 l0 x24_2).f2)) := (blk_cell BK135.out 2).trans rfl; have hcz34_3 : w33.cell? ⟨gb135, 3, none⟩ = some (.int .i64 ((rd_T31 l0 x24_2).f3)) := (blk_cell BK135.out 3).trans rfl; have hcz34_4 : w33.cell? ⟨gb135, 4, none⟩ = some (.int .i64 ((rd_T31 l0 x24_2).f4)) := (blk_cell BK135.out 4).trans rfl; have hcz34_5 : w33.cell? ⟨gb135, 5, none⟩ = some (.int .i64 ((rd_T31 l0 x24_2).f5)) := (blk_cell BK135.out 5).trans rfl; have hfz34_0 := blk_frozen BK135.out 0; have hfz34_1 := blk_frozen BK135.out 1; have hfz34_2 := blk_frozen BK135.out 2; have hfz34_3 := blk_frozen BK135.out 3; have hfz34_4 := blk_frozen BK135.out 4; have hfz34_5 := blk_frozen BK135.out 5))
                              go_roundg kj9
                              case measure => have := HJ1.out; have := HK2.out; have := HJ9.out; omega
                              case rel => exact ⟨(ji27), (ji28), (wrap64 (x24_2 + 1)), (by first | rfl | (simp; done) | (simp only [← hji27] <;> (first | rfl | simp)) | (simp [*]; done)), (by first | rfl | (simp; done) | (simp only [← hji28] <;> (first | rfl | simp)) | (simp [*]; done)), (by first | rfl | (simp; done) | (simp [*]; done)), H', ⟨by have := HJ1.out; have := HK2.out; have := HJ9.out; omega⟩, ⟨by repeat (first | (with_reducible first | exact HB.out | apply below_alloc | apply pw_below_drewN | apply below_drew1 | refine below_set ?_ GE135.out) | exact HB.out)⟩⟩
                        · rw [if_neg c24] at H
                          have c24b0 : (t141 == 0) = false := beq_eq_false_iff_ne.mpr c24
                          have c24b1 : (t141 != 0) = true := bne_iff_ne.mpr c24
                          exact absurd (Option.some.inj H) (by rw [HR_.out]; decide)
                · rw [if_neg c9] at H
                  exact absurd H (by simp)
              · rw [if_neg c8] at H
                exact absurd H (by simp)
            · rw [if_neg c7] at H
              have c7b0 : decide (x24_2 < (l0.length : Int)) = false := decide_eq_false c7
              clear c7
              replace H := Option.bind_eq_some_iff.mp H
              obtain ⟨⟨t120, t121⟩, A350, H⟩ := H
              replace H : ((some (([] : List (S31)) : List (S31))).bind fun y122 => (if y122.length + l0.length < 2932031007402 then ((some (y122 ++ l0 : List (S31))).bind fun y125 => (if y125.length + l0.length < 2932031007402 then ((vote_Mean.f k2 (y125 ++ l0)).bind fun bt131 => ((hornbeamlaw24_fixed.f k2).bind fun t133 => (if t133 = true then (if t121 = 0 then (if bt131.2 = 0 then (if t120 = bt131.1 then (if x3_2 ≤ t120 then (some (decide (t120 ≤ x4_2))) else (some false)) else (some false)) else (some false)) else (some false)) else (some false)))) else (none))) else (none))) = some r := H
              have A35 := Aside0.mk A350
              clear A350
              obtain ⟨y122, hy122⟩ : ∃ y_ : List (S31), y_ = (([] : List (S31))) := ⟨_, rfl⟩
              replace H : (if y122.length + l0.length < 2932031007402 then ((some (y122 ++ l0 : List (S31))).bind fun y125 => (if y125.length + l0.length < 2932031007402 then ((vote_Mean.f k2 (y125 ++ l0)).bind fun bt131 => ((hornbeamlaw24_fixed.f k2).bind fun t133 => (if t133 = true then (if t121 = 0 then (if bt131.2 = 0 then (if t120 = bt131.1 then (if x3_2 ≤ t120 then (some (decide (t120 ≤ x4_2))) else (some false)) else (some false)) else (some false)) else (some false)) else (some false)))) else (none))) else (none)) = some r := by first | (rw [hy122]; with_reducible exact H) | (have H2_ := (Option.bind_some _ _).symm.trans H; rw [hy122]; with_reducible exact H2_) | (have H2_ := (Option.bind_some _ _).symm.trans H; with_reducible exact H2_) | with_reducible exact H | (rw [hy122]; exact H) | exact H
              have Ny122 := Aside0.mk hy122
              clear hy122
              by_cases c36 : y122.length + l0.length < 2932031007402
              · rw [if_pos c36] at H
                have LMc36 := Aside0.mk c36
                clear c36
                obtain ⟨y125, hy125⟩ : ∃ y_ : List (S31), y_ = (y122 ++ l0) := ⟨_, rfl⟩
                replace H : (if y125.length + l0.length < 2932031007402 then ((vote_Mean.f k2 (y125 ++ l0)).bind fun bt131 => ((hornbeamlaw24_fixed.f k2).bind fun t133 => (if t133 = true then (if t121 = 0 then (if bt131.2 = 0 then (if t120 = bt131.1 then (if x3_2 ≤ t120 then (some (decide (t120 ≤ x4_2))) else (some false)) else (some false)) else (some false)) else (some false)) else (some false)))) else (none)) = some r := by first | (rw [hy125]; with_reducible exact H) | (have H2_ := (Option.bind_some _ _).symm.trans H; rw [hy125]; with_reducible exact H2_) | (have H2_ := (Option.bind_some _ _).symm.trans H; with_reducible exact H2_) | with_reducible exact H | (rw [hy125]; exact H) | exact H
                have Ny125 := Aside0.mk hy125
                clear hy125
                by_cases c37 : y125.length + l0.length < 2932031007402
                · rw [if_pos c37] at H
                  have LMc37 := Aside0.mk c37
                  clear c37
                  obtain ⟨y128, hy128⟩ : ∃ y_ : List (S31), y_ = (y125 ++ l0) := ⟨_, rfl⟩
                  replace H : ((vote_Mean.f k2 y128).bind fun bt131 => ((hornbeamlaw24_fixed.f k2).bind fun t133 => (if t133 = true then (if t121 = 0 then (if bt131.2 = 0 then (if t120 = bt131.1 then (if x3_2 ≤ t120 then (some (decide (t120 ≤ x4_2))) else (some false)) else (some false)) else (some false)) else (some false)) else (some false)))) = some r := by first | (rw [hy128]; with_reducible exact H) | (have H2_ := (Option.bind_some _ _).symm.trans H; rw [hy128]; with_reducible exact H2_) | (have H2_ := (Option.bind_some _ _).symm.trans H; with_reducible exact H2_) | with_reducible exact H | (rw [hy128]; exact H) | exact H
                  have Ny128 := Aside0.mk hy128
                  clear hy128
                  replace H := Option.bind_eq_some_iff.mp H
                  obtain ⟨⟨t131, t132⟩, A380, H⟩ := H
                  replace H : ((hornbeamlaw24_fixed.f k2).bind fun t133 => (if t133 = true then (if t121 = 0 then (if t132 = 0 then (if t120 = t131 then (if x3_2 ≤ t120 then (some (decide (t120 ≤ x4_2))) else (some false)) else (some false)) else (some false)) else (some false)) else (some false))) = some r := H
                  have A38 := Aside0.mk A380
                  clear A380
                  replace H := Option.bind_eq_some_iff.mp H
                  obtain ⟨t133, A390, H⟩ := H
                  replace H : (if t133 = true then (if t121 = 0 then (if t132 = 0 then (if t120 = t131 then (if x3_2 ≤ t120 then (some (decide (t120 ≤ x4_2))) else (some false)) else (some false)) else (some false)) else (some false)) else (some false)) = some r := H
                  have A39 := Aside0.mk A390
                  clear A390
                  by_cases c40 : t133 = true
                  · subst c40
                    have H1 : (if t121 = 0 then (if t132 = 0 then (if t120 = t131 then (if x3_2 ≤ t120 then (some (decide (t120 ≤ x4_2))) else (some false)) else (some false)) else (some false)) else (some false)) = some r := by rw [if_pos rfl] at H; exact H
                    clear H
                    have H := H1
                    clear H1
                    by_cases c41 : t121 = 0
                    · rw [if_pos c41] at H
                      have c41b0 : (t121 == 0) = true := beq_iff_eq.mpr c41
                      have c41b1 : (t121 != 0) = false := bne_eq_false_iff_eq.mpr c41
                      clear c41
                      by_cases c42 : t132 = 0
                      · rw [if_pos c42] at H
                        have c42b0 : (t132 == 0) = true := beq_iff_eq.mpr c42
                        have c42b1 : (t132 != 0) = false := bne_eq_false_iff_eq.mpr c42
                        clear c42
                        by_cases c43 : t120 = t131
                        · rw [if_pos c43] at H
                          have c43b0 : (t120 == t131) = true := beq_iff_eq.mpr c43
                          have c43b1 : (t120 != t131) = false := bne_eq_false_iff_eq.mpr c43
                          clear c43
                          by_cases c44 : x3_2 ≤ t120
                          · rw [if_pos c44] at H
                            have c44b0 : decide (x3_2 ≤ t120) = true := decide_eq_true c44
                            clear c44
                            obtain rfl := Option.some.inj H
                            go_wp2_with (first | ((with_reducible refine gate_callee (f := 15) rfl ?_); refine goesL_ (some 89) rfl rfl Try.func15 (by kernel_rfl) rfl #[.slice A0 l0.length c0] rfl (by (try simp only [List.map_toArray, List.map_cons, List.map_nil]); first | done | rfl | (simp only [List.length_drop, List.length_take]; rfl)) ?_; (with_reducible refine (vote_Mean.calls k2 _ _ l0 t120 t121 _ ?side1 ?side2 A35.out).mono ?_); (case side1 => repeat (first | exact (Kd.C_below HR0.out HB.out) | (with_reducible refine Kd.C_alloc ?_ _) | (with_reducible refine Kd.C_drewN ?_ _) | (with_reducible refine Kd.C_drew ?_))); (case side2 => exact HC0.out); rintro e w45 ⟨rfl, hb⟩; refine ⟨_, rfl, ?_⟩; have n0_ := Aside0.mk (below_step (by repeat (first | (with_reducible first | exact HB.out | apply below_alloc | apply pw_below_drewN | apply below_drew1) | exact HB.out)) hb); clear HB; have HB := n0_; clear n0_; (try clear hb); (try clear hb2); (try clear hk); (try clear hi)) | ((with_reducible refine gate_dst (N := 93) rfl ?_); (try (refine gate_guard (by rfl) ?_; dsimp only)); refine Kd.R_lit k31 _ 31 ?hg (N := 93) ?hd (xs := ([] : List (S31))) (inner := []) (ok := fun _ => True) (okp := fun _ => True) ?hr ?hp (fun _ hk => hk) trivial (Below.refl _ _) (Nat.le_refl _) (by simp) ?_; (case hd => rfl); (case hg => rfl); (case hr => first | (go_simp; done) | (go_simp; rfl)); (case hp => exact (Reps.none _ _)); intro v123 w46 ho47 hb hg_ hnew_; clear hg_ hnew_; (first | rw [← Ny122.out] at ho47 | (simp only [Int.reduceToNat] at ho47; rw [← Ny122.out] at ho47)); have n0_ := Aside0.mk (Kd.R_lower ho47 (below_size (by repeat (first | (with_reducible first | exact HB.out | apply below_alloc | apply pw_below_drewN | apply below_drew1) | exact HB.out)))); have n1_ := Aside0.mk (below_step (by repeat (first | (with_reducible first | exact HB.out | apply below_alloc | apply pw_below_drewN | apply below_drew1) | exact HB.out)) hb); clear HB; have HO124 := n0_; have HB := n1_; clear n0_ n1_; clear hb ho47) | ((with_reducible refine gate_builtin (b := .append) (xs := #[.tmp 93, .tmp 94]) rfl ?_); (try (refine gate_guard (by rfl) ?_; dsimp only)); at_builtin; refine Kd.R_append_rows k31 (w0 := w) w.heap.size rfl (.tmp 93) (.tmp 94) 28 31 (.agg #[(.int .i64 0), (.int .i64 0), (.int .i64 0), (.int .i64 0), (.int .i64 0), (.int .i64 0)]) 48 rfl Try.underlying28 info31 rfl (by decide) (by omega) v123 y122 l0 _ _ _ (fun _ => True) (fun _ => False) rfl rfl ?aO ?aR (fun _ _ h => h) (fun _ h => h.elim) ?aF ?aB ?aS ?aL ?_; (case aR => repeat (first | exact (Kd.C_below HR0.out HB.out) | (with_reducible refine Kd.C_alloc ?_ _) | (with_reducible refine Kd.C_drewN ?_ _) | (with_reducible refine Kd.C_drew ?_))); (case aB => exact (by repeat (first | (with_reducible first | exact HB.out | apply below_alloc | apply pw_below_drewN | apply below_drew1) | exact HB.out))); (case aF => exact (fun _ _ => trivial)); (case aO => exact (by (with_reducible repeat (first | apply Kd.R_alloc | apply Kd.R_drewN | apply Kd.R_drew)); exact HO124.out)); (case aS => exact (below_size (by repeat (first | (with_reducible first | exact HB.out | apply below_alloc | apply pw_below_drewN | apply below_drew1) | exact HB.out)))); (case aL => have := LMc36.out; omega); intro v126 w48 ho hb hg hat; rw [← Ny125.out] at ho; have n0_ := Aside0.mk (hb); have n1_ := Aside0.mk (ho); clear HB; clear HO124; have HB := n0_; have HO127 := n1_; clear n0_ n1_; clear ho hb hg hat) | ((with_reducible refine gate_builtin (b := .append) (xs := #[.tmp 95, .tmp 96]) rfl ?_); (try (refine gate_guard (by rfl) ?_; dsimp only)); at_builtin; refine Kd.R_append_rows k31 (w0 := w) w.heap.size rfl (.tmp 95) (.tmp 96) 28 31 (.agg #[(.int .i64 0), (.int .i64 0), (.int .i64 0), (.int .i64 0), (.int .i64 0), (.int .i64 0)]) 48 rfl Try.underlying28 info31 rfl (by decide) (by omega) v126 y125 l0 _ _ _ (fun _ => True) (fun _ => False) rfl rfl ?aO ?aR (fun _ _ h => h) (fun _ h => h.elim) ?aF ?aB ?aS ?aL ?_; (case aR => repeat (first | exact (Kd.C_below HR0.out HB.out) | (with_reducible refine Kd.C_alloc ?_ _) | (with_reducible refine Kd.C_drewN ?_ _) | (with_reducible refine Kd.C_drew ?_))); (case aB => exact (by repeat (first | (with_reducible first | exact HB.out | apply below_alloc | apply pw_below_drewN | apply below_drew1) | exact HB.out))); (case aF => exact (fun _ _ => trivial)); (case aO => exact (by (with_reducible repeat (first | apply Kd.R_alloc | apply Kd.R_drewN | apply Kd.R_drew)); exact HO127.out)); (case aS => exact (below_size (by repeat (first | (with_reducible first | exact HB.out | apply below_alloc | apply pw_below_drewN | apply below_drew1) | exact HB.out)))); (case aL => have := LMc37.out; omega); intro v129 w49 ho hb hg hat; rw [← Ny128.out] at ho; have n0_ := Aside0.mk (hb); have n1_ := Aside0.mk (ho); clear HB; clear HO127; have HB := n0_; have HO130 := n1_; clear n0_ n1_; clear ho hb hg hat; obtain ⟨Ao50, co50, eo50⟩ := Kd.R_slice HO130.out; subst eo50) | ((with_reducible refine gate_callee (f := 15) rfl ?_); refine goesL_ (some 98) rfl rfl Try.func15 (by kernel_rfl) rfl #[.slice Ao50 y128.length co50] rfl (by (try simp only [List.map_toArray, List.map_cons, List.map_nil]); first | done | rfl | (simp only [List.length_drop, List.length_take]; rfl)) ?_; (with_reducible refine (vote_Mean.calls k2 _ _ y128 t131 t132 _ ?side1 ?side2 A38.out).mono ?_); (case side1 => repeat (first | exact (Kd.R_reads' HO130.out).2.2 | (with_reducible refine Kd.C_alloc ?_ _) | (with_reducible refine Kd.C_drewN ?_ _) | (with_reducible refine Kd.C_drew ?_))); (case side2 => exact (Kd.R_reads' HO130.out).2.1); rintro e w51 ⟨rfl, hb⟩; refine ⟨_, rfl, ?_⟩; have n0_ := Aside0.mk (Kd.R_below (by (with_reducible repeat (first | apply Kd.R_alloc | apply Kd.R_drewN | apply Kd.R_drew)); exact HO130.out) hb); have n1_ := Aside0.mk (below_step (by repeat (first | (with_reducible first | exact HB.out | apply below_alloc | apply pw_below_drewN | apply below_drew1) | exact HB.out)) hb); clear HO130; clear HB; have HO130 := n0_; have HB := n1_; clear n0_ n1_; (try clear hb); (try clear hb2); (try clear hk); (try clear hi)) | ((with_reducible refine gate_callee (f := 13) rfl ?_); refine goesL_ (some 101) rfl rfl Try.func13 (by kernel_rfl) rfl #[] rfl (by (try simp only [List.map_toArray, List.map_cons, List.map_nil]); first | done | rfl | (simp only [List.length_drop, List.length_take]; rfl)) ?_; (with_reducible refine (hornbeamlaw24_fixed.calls k2  true _ A39.out).mono ?_); rintro e w52 ⟨rfl, hb⟩; refine ⟨_, rfl, ?_⟩; have n0_ := Aside0.mk (Kd.R_below (by (with_reducible repeat (first | apply Kd.R_alloc | apply Kd.R_drewN | apply Kd.R_drew)); exact HO130.out) hb); have n1_ := Aside0.mk (below_step (by repeat (first | (with_reducible first | exact HB.out | apply below_alloc | apply pw_below_drewN | apply below_drew1) | exact HB.out)) hb); clear HO130; clear HB; have HO130 := n0_; have HB := n1_; clear n0_ n1_; (try clear hb); (try clear hb2); (try clear hk); (try clear hi)))
                            all_goals (go_ret; exact ⟨by first | rfl | (simp [errW_none, errW_some] <;> rfl) | (simp [*, errW_none, errW_some] <;> rfl) | (simp_all; done), by repeat (first | (with_reducible first | exact HB.out | apply below_alloc | apply pw_below_drewN | apply below_drew1) | exact HB.out)⟩)
                          · rw [if_neg c44] at H
                            have c44b0 : decide (x3_2 ≤ t120) = false := decide_eq_false c44
                            clear c44
                            exact absurd (Option.some.inj H) (by rw [HR_.out]; decide)
                        · rw [if_neg c43] at H
                          have c43b0 : (t120 == t131) = false := beq_eq_false_iff_ne.mpr c43
                          have c43b1 : (t120 != t131) = true := bne_iff_ne.mpr c43
                          exact absurd (Option.some.inj H) (by rw [HR_.out]; decide)
                      · rw [if_neg c42] at H
                        have c42b0 : (t132 == 0) = false := beq_eq_false_iff_ne.mpr c42
                        have c42b1 : (t132 != 0) = true := bne_iff_ne.mpr c42
                        exact absurd (Option.some.inj H) (by rw [HR_.out]; decide)
                    · rw [if_neg c41] at H
                      have c41b0 : (t121 == 0) = false := beq_eq_false_iff_ne.mpr c41
                      have c41b1 : (t121 != 0) = true := bne_iff_ne.mpr c41
                      exact absurd (Option.some.inj H) (by rw [HR_.out]; decide)
                  · replace c40 := Bool.eq_false_iff.mpr c40
                    subst c40
                    have H1 : (some false) = some r := by rw [if_neg (show ¬ (false = true) by decide)] at H; exact H
                    clear H
                    have H := H1
                    clear H1
                    exact absurd (Option.some.inj H) (by rw [HR_.out]; decide)
                · rw [if_neg c37] at H
                  exact absurd H (by simp)
              · rw [if_neg c36] at H
                exact absurd H (by simp)

/-- THE ONE PURE STATEMENT of hornbeamlaw24_VoteMeans: yours. -/
def hornbeamlaw24_VoteMeans.Pure : Prop := ∀ (l0 : List (S31)), (l0.length ≤ maxLen ∧ ∀ v0 ∈ l0, ((Lit.int .i64 v0.f0).wf = true ∧ ((Lit.int .i64 v0.f1).wf = true ∧ ((Lit.int .i64 v0.f2).wf = true ∧ ((Lit.int .i64 v0.f3).wf = true ∧ ((Lit.int .i64 v0.f4).wf = true ∧ (Lit.int .i64 v0.f5).wf = true)))))) → ∃ k, hornbeamlaw24_VoteMeans.f k l0 = some true

end Go.Proofs.Ytglicbpnmehloaa.QVoteMeans
