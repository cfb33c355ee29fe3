-- Written by a program of this session (wip/tools/mkprint.py over the kit's print); Lean checks it.
import Derived.Test.YtglicbpnmehloaaQProdWidesx0
namespace Go.Proofs.Ytglicbpnmehloaa.QProdWides
open Go.RowKit Go.Proofs.YtglicbpnmehloaaW.PrintWords Go.Proofs.YtglicbpnmehloaaW.PrintLast Go.Proofs.YtglicbpnmehloaaW.PrintMore
attribute [local go_sem] max2_int min2_int max_two min_two max_three min_three max_four min_four   -- for this text's walks alone
set_option linter.unusedVariables false
set_option linter.unusedSimpArgs false

/-! ### hornbeamref04_CmpLong: function 38 -/
def hornbeamref04_CmpLong.f (a0 a1 a2 b0 b1 b2 : Int) : Option Int := if a0 < b0 then some (-1) else if b0 < a0 then some 1 else if a1 < b1 then some (-1) else if b1 < a1 then some 1 else if a2 < b2 then some (-1) else if b2 < a2 then some 1 else some 0
set_option maxHeartbeats 8000000 in
set_option maxRecDepth 100000 in
theorem hornbeamref04_CmpLong.calls (a0 a1 a2 b0 b1 b2 : Int) (r : Int) (w : World) (h : hornbeamref04_CmpLong.f a0 a1 a2 b0 b1 b2 = some r) :
    Calls Try.prog 38 #[.agg #[.int .u64 a0, .int .u64 a1, .int .u64 a2], .agg #[.int .u64 b0, .int .u64 b1, .int .u64 b2]] w fun e w' => e = .returned (.int .i64 r) ∧ Below w.heap.size w w' := by
  have hu49 := Try.underlying49
  have hu26 := Try.underlying26
  have HB := Aside0.mk (Below.refl w.heap.size w)
  have HF := Aside0.mk h
  clear h
  go_enter Try.func38, Try.ntmps38
  go_wp2_with (first | ((with_reducible refine gate_dst (N := 2) rfl ?_); refine box_event ?hg (N := 2) ?hd (cs := #[.int .u64 a0, .int .u64 a1, .int .u64 a2]) (t := 49) ?hr ?_; (case hd => rfl); (case hg => rfl); (case hr => first | (go_simp; done) | (go_simp; rfl)); intro gb122 hg w3 hbox hb; have n0_ := Aside0.mk (below_step (by repeat (first | (with_reducible first | exact HB.out | apply below_alloc | apply pw_below_drewN | apply below_drew1) | exact HB.out)) hb); have n1_ := Aside0.mk (hbox); have n2_ := Aside0.mk ((by rw [hg]; exact (below_size (by repeat (first | (with_reducible first | exact HB.out | apply below_alloc | apply pw_below_drewN | apply below_drew1) | exact HB.out))) : w.heap.size ≤ gb122)); have n3_ := Aside0.mk ((by rw [hg]; exact (below_size (by repeat (first | (with_reducible first | exact HB.out | apply below_alloc | apply pw_below_drewN | apply below_drew1) | exact HB.out))) : w.heap.size ≤ gb122)); clear HB; have HB := n0_; have BK122 := n1_; have GW122 := n2_; have GE122 := n3_; clear n0_ n1_ n2_ n3_; clear hb hbox hg) | ((with_reducible refine gate_dst (N := 3) rfl ?_); refine box_event ?hg (N := 3) ?hd (cs := #[.int .u64 b0, .int .u64 b1, .int .u64 b2]) (t := 49) ?hr ?_; (case hd => rfl); (case hg => rfl); (case hr => first | (go_simp; done) | (go_simp; rfl)); intro gb123 hg w4 hbox hb; have n0_ := Aside0.mk (blk_below (g := gb122) (o := .cells #[.int .u64 a0, .int .u64 a1, .int .u64 a2] 49 (0, 0)) (by (with_reducible repeat (first | refine blk_drewN ?_ _ | refine blk_drew ?_ | refine blk_alloc ?_ _)); exact BK122.out) hb); have n1_ := Aside0.mk (below_step (by repeat (first | (with_reducible first | exact HB.out | apply below_alloc | apply pw_below_drewN | apply below_drew1 | refine below_set ?_ GE122.out) | exact HB.out)) hb); have n2_ := Aside0.mk (hbox); clear BK122; clear HB; have BK122 := n0_; have HB := n1_; have BK123 := n2_; clear n0_ n1_ n2_; clear hb hbox hg; have hcz6_0 : w4.cell? ⟨gb122, 0, none⟩ = some (.int .u64 a0) := (blk_cell BK122.out 0).trans rfl; have hcz6_1 : w4.cell? ⟨gb122, 1, none⟩ = some (.int .u64 a1) := (blk_cell BK122.out 1).trans rfl; have hcz6_2 : w4.cell? ⟨gb122, 2, none⟩ = some (.int .u64 a2) := (blk_cell BK122.out 2).trans rfl; have hcz7_0 : w4.cell? ⟨gb123, 0, none⟩ = some (.int .u64 b0) := (blk_cell BK123.out 0).trans rfl; have hcz7_1 : w4.cell? ⟨gb123, 1, none⟩ = some (.int .u64 b1) := (blk_cell BK123.out 1).trans rfl; have hcz7_2 : w4.cell? ⟨gb123, 2, none⟩ = some (.int .u64 b2) := (blk_cell BK123.out 2).trans rfl))
  go_loopw [5] (fun v5 wr => ∃ k : Nat, v5 = .int .i64 (k : Int) ∧ Aside0 (k ≤ 3 ∧ (0 < k → a0 = b0) ∧ (1 < k → a1 = b1) ∧ (2 < k → a2 = b2)) ∧ Drawn0 w4 wr) (fun v5 _ => 3 - (intOf v5).toNat)
  case atStart => exact ⟨0, rfl, ⟨by omega, by omega, by omega, by omega⟩, Drawn0.refl _⟩
  case round =>
    obtain ⟨k, rfl, HK, ⟨m1, rfl⟩⟩ := hrel
    have hk : k = 0 ∨ k = 1 ∨ k = 2 ∨ k = 3 := by have := HK.out.1; omega
    rcases hk with rfl | rfl | rfl | rfl
    · by_cases h1 : a0 < b0
      · have h1b : decide (a0 < b0) = true := decide_eq_true h1
        obtain rfl : r = -1 := by
          have := HF.out
          unfold hornbeamref04_CmpLong.f at this
          rw [if_pos h1] at this
          exact (Option.some.inj this).symm
        clear h1 HF
        go_wp2
        repeat (go_quiet (fail); try go_wp2)
        go_ret
        exact ⟨rfl, by repeat (first | exact HB.out | apply pw_below_drewN | apply below_drew1)⟩
      · have h1b : decide (a0 < b0) = false := decide_eq_false h1
        by_cases h2 : b0 < a0
        · have h2b : decide (b0 < a0) = true := decide_eq_true h2
          obtain rfl : r = 1 := by
            have := HF.out
            unfold hornbeamref04_CmpLong.f at this
            rw [if_neg h1, if_pos h2] at this
            exact (Option.some.inj this).symm
          clear h1 h2 HF
          go_wp2
          repeat (go_quiet (fail); try go_wp2)
          go_ret
          exact ⟨rfl, by repeat (first | exact HB.out | apply pw_below_drewN | apply below_drew1)⟩
        · have h2b : decide (b0 < a0) = false := decide_eq_false h2
          have HD : Aside0 (a0 = b0) := ⟨by omega⟩
          clear h1 h2
          go_wp2
          repeat (go_quiet (fail); try go_wp2)
          go_roundw
          case rel => exact ⟨1, rfl, ⟨by omega, fun _ => HD.out, fun _ => by omega, fun _ => by omega⟩, by repeat (first | exact Drawn0.refl _ | apply Drawn0.step)⟩
          case measure => simp [intOf]
    · by_cases h1 : a1 < b1
      · have h1b : decide (a1 < b1) = true := decide_eq_true h1
        obtain rfl : r = -1 := by
          have := HF.out
          unfold hornbeamref04_CmpLong.f at this
          rw [if_neg (Int.not_lt.2 (Int.le_of_eq (HK.out.2.1 (by omega)).symm)), if_neg (Int.not_lt.2 (Int.le_of_eq (HK.out.2.1 (by omega)))), if_pos h1] at this
          exact (Option.some.inj this).symm
        clear h1 HF
        go_wp2
        repeat (go_quiet (fail); try go_wp2)
        go_ret
        exact ⟨rfl, by repeat (first | exact HB.out | apply pw_below_drewN | apply below_drew1)⟩
      · have h1b : decide (a1 < b1) = false := decide_eq_false h1
        by_cases h2 : b1 < a1
        · have h2b : decide (b1 < a1) = true := decide_eq_true h2
          obtain rfl : r = 1 := by
            have := HF.out
            unfold hornbeamref04_CmpLong.f at this
            rw [if_neg (Int.not_lt.2 (Int.le_of_eq (HK.out.2.1 (by omega)).symm)), if_neg (Int.not_lt.2 (Int.le_of_eq (HK.out.2.1 (by omega)))), if_neg h1, if_pos h2] at this
            exact (Option.some.inj this).symm
          clear h1 h2 HF
          go_wp2
          repeat (go_quiet (fail); try go_wp2)
          go_ret
          exact ⟨rfl, by repeat (first | exact HB.out | apply pw_below_drewN | apply below_drew1)⟩
        · have h2b : decide (b1 < a1) = false := decide_eq_false h2
          have HD : Aside0 (a1 = b1) := ⟨by omega⟩
          clear h1 h2
          go_wp2
          repeat (go_quiet (fail); try go_wp2)
          go_roundw
          case rel => exact ⟨2, rfl, ⟨by omega, fun _ => HK.out.2.1 (by omega), fun _ => HD.out, fun _ => by omega⟩, by repeat (first | exact Drawn0.refl _ | apply Drawn0.step)⟩
          case measure => simp [intOf]
    · by_cases h1 : a2 < b2
      · have h1b : decide (a2 < b2) = true := decide_eq_true h1
        obtain rfl : r = -1 := by
          have := HF.out
          unfold hornbeamref04_CmpLong.f at this
          rw [if_neg (Int.not_lt.2 (Int.le_of_eq (HK.out.2.1 (by omega)).symm)), if_neg (Int.not_lt.2 (Int.le_of_eq (HK.out.2.1 (by omega)))), if_neg (Int.not_lt.2 (Int.le_of_eq (HK.out.2.2.1 (by omega)).symm)), if_neg (Int.not_lt.2 (Int.le_of_eq (HK.out.2.2.1 (by omega)))), if_pos h1] at this
          exact (Option.some.inj this).symm
        clear h1 HF
        go_wp2
        repeat (go_quiet (fail); try go_wp2)
        go_ret
        exact ⟨rfl, by repeat (first | exact HB.out | apply pw_below_drewN | apply below_drew1)⟩
      · have h1b : decide (a2 < b2) = false := decide_eq_false h1
        by_cases h2 : b2 < a2
        · have h2b : decide (b2 < a2) = true := decide_eq_true h2
          obtain rfl : r = 1 := by
            have := HF.out
            unfold hornbeamref04_CmpLong.f at this
            rw [if_neg (Int.not_lt.2 (Int.le_of_eq (HK.out.2.1 (by omega)).symm)), if_neg (Int.not_lt.2 (Int.le_of_eq (HK.out.2.1 (by omega)))), if_neg (Int.not_lt.2 (Int.le_of_eq (HK.out.2.2.1 (by omega)).symm)), if_neg (Int.not_lt.2 (Int.le_of_eq (HK.out.2.2.1 (by omega)))), if_neg h1, if_pos h2] at this
            exact (Option.some.inj this).symm
          clear h1 h2 HF
          go_wp2
          repeat (go_quiet (fail); try go_wp2)
          go_ret
          exact ⟨rfl, by repeat (first | exact HB.out | apply pw_below_drewN | apply below_drew1)⟩
        · have h2b : decide (b2 < a2) = false := decide_eq_false h2
          have HD : Aside0 (a2 = b2) := ⟨by omega⟩
          clear h1 h2
          go_wp2
          repeat (go_quiet (fail); try go_wp2)
          go_roundw
          case rel => exact ⟨3, rfl, ⟨by omega, fun _ => HK.out.2.1 (by omega), fun _ => HK.out.2.2.1 (by omega), fun _ => HD.out⟩, by repeat (first | exact Drawn0.refl _ | apply Drawn0.step)⟩
          case measure => simp [intOf]
    · obtain rfl : r = 0 := by
        have := HF.out
        unfold hornbeamref04_CmpLong.f at this
        rw [HK.out.2.1 (by omega), HK.out.2.2.1 (by omega), HK.out.2.2.2 (by omega)] at this
        simp only [Int.lt_irrefl, if_false] at this
        exact (Option.some.inj this).symm
      clear HF
      go_wp2
      repeat (go_quiet (fail); try go_wp2)
      go_ret
      exact ⟨rfl, by repeat (first | exact HB.out | apply pw_below_drewN | apply below_drew1)⟩


end Go.Proofs.Ytglicbpnmehloaa.QProdWides
