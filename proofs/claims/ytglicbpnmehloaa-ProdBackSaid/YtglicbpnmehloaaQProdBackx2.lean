-- Written by a program of this session (wip/tools/mkprint.py over the kit's print); Lean checks it.
import Derived.Test.YtglicbpnmehloaaQProdBackx0
import Derived.Test.YtglicbpnmehloaaQProdBackx1
namespace Go.Proofs.Ytglicbpnmehloaa.QProdBack
open Go.RowKit Go.Proofs.YtglicbpnmehloaaW.PrintWords Go.Proofs.YtglicbpnmehloaaW.PrintLast Go.Proofs.YtglicbpnmehloaaW.PrintMore
attribute [local go_sem] max2_int min2_int max_two min_two max_three min_three max_four min_four   -- for this text's walks alone
set_option linter.unusedVariables false
set_option linter.unusedSimpArgs false

attribute [local go_sem high] eqA38
/-! ### prod_Floor: function 11 -/
def prod_Floor.f (a0 : Int) (a1 : Int) : Option (Int × Int) := if a1 < 1 then (some (0, 1)) else (if a1 = 0 then (none) else (if (Int.tmod a0 a1) < 0 then (some (wrap64 ((wrap64 (Int.tdiv a0 a1)) - 1), 0)) else (some (wrap64 (Int.tdiv a0 a1), 0))))
set_option maxHeartbeats 8000000 in
set_option maxRecDepth 100000 in
theorem prod_Floor.calls (a0 : Int) (a1 : Int) (r1 : Int) (r2 : Int) (w : World) (h : prod_Floor.f a0 a1 = some (r1, r2)) :
    Calls Try.prog 11 #[.int .i64 a0, .int .i64 a1] w fun e w' => e = .returned (.tuple #[.int .i64 r1, .int .i64 r2]) ∧ Drawn0 w w' := by
  have H : (if a1 < 1 then (some (0, 1)) else (if a1 = 0 then (none) else (if (Int.tmod a0 a1) < 0 then (some (wrap64 ((wrap64 (Int.tdiv a0 a1)) - 1), 0)) else (some (wrap64 (Int.tdiv a0 a1), 0))))) = some (r1, r2) := h
  clear h
  by_cases c3 : a1 < 1
  · rw [if_pos c3] at H
    have c3b0 : decide (a1 < 1) = true := decide_eq_true c3
    clear c3
    simp only [Option.some.injEq, Prod.mk.injEq] at H
    obtain ⟨rfl, rfl⟩ := H
    go_enter Try.func11, Try.ntmps11
    go_wp2
    all_goals (go_ret2; exact ⟨by first | rfl | (simp; done) | (simp [*]; done), by repeat (first | exact Drawn0.refl _ | apply Drawn0.step)⟩)
  · rw [if_neg c3] at H
    have c3b0 : decide (a1 < 1) = false := decide_eq_false c3
    clear c3
    by_cases c4 : a1 = 0
    · rw [if_pos c4] at H
      exact absurd H (by simp)
    · rw [if_neg c4] at H
      have c4b0 : (a1 == 0) = false := beq_eq_false_iff_ne.mpr c4
      have c4b1 : (a1 != 0) = true := bne_iff_ne.mpr c4
      by_cases c5 : (Int.tmod a0 a1) < 0
      · rw [if_pos c5] at H
        have c5b0 : decide ((Int.tmod a0 a1) < 0) = true := decide_eq_true c5
        clear c5
        simp only [Option.some.injEq, Prod.mk.injEq] at H
        obtain ⟨rfl, rfl⟩ := H
        go_enter Try.func11, Try.ntmps11
        go_wp2
        all_goals (go_ret2; exact ⟨by first | rfl | (simp; done) | (simp [*]; done), by repeat (first | exact Drawn0.refl _ | apply Drawn0.step)⟩)
      · rw [if_neg c5] at H
        have c5b0 : decide ((Int.tmod a0 a1) < 0) = false := decide_eq_false c5
        clear c5
        simp only [Option.some.injEq, Prod.mk.injEq] at H
        obtain ⟨rfl, rfl⟩ := H
        go_enter Try.func11, Try.ntmps11
        go_wp2
        all_goals (go_ret2; exact ⟨by first | rfl | (simp; done) | (simp [*]; done), by repeat (first | exact Drawn0.refl _ | apply Drawn0.step)⟩)

/-! ### bits_Mul64: function 45 -/
def bits_Mul64.f (a0 : Int) (a1 : Int) : Option (Int × Int) := some (IntKind.u64.wrap ((IntKind.u64.wrap ((IntKind.u64.wrap ((a0 / 4294967296) * (a1 / 4294967296))) + ((IntKind.u64.wrap ((IntKind.u64.wrap ((a0 / 4294967296) * (Go.bits .and .u64 a1 4294967295))) + ((IntKind.u64.wrap ((Go.bits .and .u64 a0 4294967295) * (Go.bits .and .u64 a1 4294967295))) / 4294967296))) / 4294967296))) + ((IntKind.u64.wrap ((Go.bits .and .u64 (IntKind.u64.wrap ((IntKind.u64.wrap ((a0 / 4294967296) * (Go.bits .and .u64 a1 4294967295))) + ((IntKind.u64.wrap ((Go.bits .and .u64 a0 4294967295) * (Go.bits .and .u64 a1 4294967295))) / 4294967296))) 4294967295) + (IntKind.u64.wrap ((Go.bits .and .u64 a0 4294967295) * (a1 / 4294967296))))) / 4294967296)), IntKind.u64.wrap (a0 * a1))
set_option maxHeartbeats 8000000 in
set_option maxRecDepth 100000 in
theorem bits_Mul64.calls (a0 : Int) (a1 : Int) (r1 : Int) (r2 : Int) (w : World) (h : bits_Mul64.f a0 a1 = some (r1, r2)) :
    Calls Try.prog 45 #[.int .u64 a0, .int .u64 a1] w fun e w' => e = .returned (.tuple #[.int .u64 r1, .int .u64 r2]) ∧ Drawn0 w w' := by
  have H : (some (IntKind.u64.wrap ((IntKind.u64.wrap ((IntKind.u64.wrap ((a0 / 4294967296) * (a1 / 4294967296))) + ((IntKind.u64.wrap ((IntKind.u64.wrap ((a0 / 4294967296) * (Go.bits .and .u64 a1 4294967295))) + ((IntKind.u64.wrap ((Go.bits .and .u64 a0 4294967295) * (Go.bits .and .u64 a1 4294967295))) / 4294967296))) / 4294967296))) + ((IntKind.u64.wrap ((Go.bits .and .u64 (IntKind.u64.wrap ((IntKind.u64.wrap ((a0 / 4294967296) * (Go.bits .and .u64 a1 4294967295))) + ((IntKind.u64.wrap ((Go.bits .and .u64 a0 4294967295) * (Go.bits .and .u64 a1 4294967295))) / 4294967296))) 4294967295) + (IntKind.u64.wrap ((Go.bits .and .u64 a0 4294967295) * (a1 / 4294967296))))) / 4294967296)), IntKind.u64.wrap (a0 * a1))) = some (r1, r2) := h
  clear h
  simp only [Option.some.injEq, Prod.mk.injEq] at H
  obtain ⟨rfl, rfl⟩ := H
  go_enter Try.func45, Try.ntmps45
  go_wp2
  all_goals (go_ret2; exact ⟨by first | rfl | (simp; done) | (simp [*]; done), by repeat (first | exact Drawn0.refl _ | apply Drawn0.step)⟩)

/-! ### prod_Mul: function 31 -/
def prod_Mul.f (a0 : Int) (a1 : Int) : Option (Int × Int) := (bits_Mul64.f a0 a1).bind fun bt102 => (some (bt102.1, bt102.2))
set_option maxHeartbeats 8000000 in
set_option maxRecDepth 100000 in
theorem prod_Mul.calls (a0 : Int) (a1 : Int) (r1 : Int) (r2 : Int) (w : World) (h : prod_Mul.f a0 a1 = some (r1, r2)) :
    Calls Try.prog 31 #[.int .u64 a0, .int .u64 a1] w fun e w' => e = .returned (.agg #[.int .u64 r1, .int .u64 r2]) ∧ Below w.heap.size w w' := by
  have hu38 := Try.underlying38
  have HB := Aside0.mk (Below.refl w.heap.size w)
  have H : ((bits_Mul64.f a0 a1).bind fun bt102 => (some (bt102.1, bt102.2))) = some (r1, r2) := h
  clear h
  replace H := Option.bind_eq_some_iff.mp H
  obtain ⟨⟨t102, t103⟩, A30, H⟩ := H
  replace H : (some (t102, t103)) = some (r1, r2) := H
  have A3 := Aside0.mk A30
  clear A30
  simp only [Option.some.injEq, Prod.mk.injEq] at H
  obtain ⟨rfl, rfl⟩ := H
  go_enter Try.func31, Try.ntmps31
  go_wp2_with (first | ((with_reducible refine gate_dst (N := 4) rfl ?_); refine box_event ?hg (N := 4) ?hd (cs := #[.int .u64 0, .int .u64 0]) (t := 38) ?hr ?_; (case hd => rfl); (case hg => rfl); (case hr => first | (go_simp; done) | (go_simp; rfl)); intro gb101 hg w4 hbox hb; have n0_ := Aside0.mk (below_step (by repeat (first | (with_reducible first | exact HB.out | apply below_alloc | apply pw_below_drewN | apply below_drew1) | exact HB.out)) hb); have n1_ := Aside0.mk (hbox); have n2_ := Aside0.mk ((by rw [hg]; exact (below_size (by repeat (first | (with_reducible first | exact HB.out | apply below_alloc | apply pw_below_drewN | apply below_drew1) | exact HB.out))) : w.heap.size ≤ gb101)); have n3_ := Aside0.mk ((by rw [hg]; exact (below_size (by repeat (first | (with_reducible first | exact HB.out | apply below_alloc | apply pw_below_drewN | apply below_drew1) | exact HB.out))) : w.heap.size ≤ gb101)); clear HB; have HB := n0_; have BK101 := n1_; have GW101 := n2_; have GE101 := n3_; clear n0_ n1_ n2_ n3_; clear hb hbox hg) | ((with_reducible refine gate_callee (f := 45) rfl ?_); refine goesL_ (some 10) rfl rfl Try.func45 (by kernel_rfl) rfl #[.int .u64 a0, .int .u64 a1] rfl (by (try simp only [List.map_toArray, List.map_cons, List.map_nil]); first | done | rfl | (simp only [List.length_drop, List.length_take]; rfl)) ?_; (with_reducible refine (bits_Mul64.calls a0 a1 t102 t103 _ A3.out).mono ?_); rintro e w' ⟨rfl, ⟨nd, rfl⟩⟩; refine ⟨_, rfl, ?_⟩; (try (rw [drewN_self w4]; generalize hq_ : World.drewN w4 _ = w4; have n0_ : Aside0 (w4.heap[gb101]? = some (.cells #[.int .u64 0, .int .u64 0] 38 (0, 0))) := ⟨by rw [← hq_]; exact (by (with_reducible repeat (first | refine blk_drewN ?_ _ | refine blk_drew ?_ | refine blk_alloc ?_ _)); exact BK101.out)⟩; have n1_ : Aside0 (Below w.heap.size w w4) := ⟨by rw [← hq_]; exact (by repeat (first | (with_reducible first | exact HB.out | apply below_alloc | apply pw_below_drewN | apply below_drew1 | refine below_set ?_ GE101.out) | exact HB.out))⟩; clear BK101 HB hq_; have BK101 := n0_; have HB := n1_; clear n0_ n1_; have hcy101_0 : w4.cell? ⟨gb101, 0, none⟩ = some (.int .u64 0) := (blk_cell BK101.out 0).trans rfl; have hfy101_0 := blk_frozen BK101.out 0; have hcy101_1 : w4.cell? ⟨gb101, 1, none⟩ = some (.int .u64 0) := (blk_cell BK101.out 1).trans rfl; have hfy101_1 := blk_frozen BK101.out 1)); have hcz5_0 : w4.cell? ⟨gb101, 0, none⟩ = some (.int .u64 0) := (blk_cell BK101.out 0).trans rfl; have hcz5_1 : w4.cell? ⟨gb101, 1, none⟩ = some (.int .u64 0) := (blk_cell BK101.out 1).trans rfl; have hfz5_0 := blk_frozen BK101.out 0; have hfz5_1 := blk_frozen BK101.out 1))
  refine bodyPost_ret (results_cell_row rfl _ _ gb101 38 #[.int .u64 t102, .int .u64 t103] (0, 0) _ rfl (by (with_reducible repeat (first | refine blk_drewN ?_ _ | refine blk_drew ?_ | refine blk_alloc ?_ _)); refine blk_put (cs := #[.int .u64 t102, .int .u64 0]) ?_ 1 _ rfl; (with_reducible repeat (first | refine blk_drewN ?_ _ | refine blk_drew ?_ | refine blk_alloc ?_ _)); refine blk_put (cs := #[.int .u64 0, .int .u64 0]) ?_ 0 _ rfl; (with_reducible repeat (first | refine blk_drewN ?_ _ | refine blk_drew ?_ | refine blk_alloc ?_ _)); exact BK101.out) Try.underlying38 rfl (by kernel_rfl)) rfl ?_
  exact ⟨by first | rfl | (simp [errW_none, errW_some] <;> rfl) | (simp [*, errW_none, errW_some] <;> rfl), by repeat (first | (with_reducible first | exact HB.out | apply below_alloc | apply pw_below_drewN | apply below_drew1 | refine below_set ?_ GE101.out) | exact HB.out)⟩

/-! ### prod_size: function 42 -/
def prod_size.f (a0 : Int) : Option (Int) := if a0 < 0 then (some (IntKind.u64.wrap (-(IntKind.u64.wrap (a0))))) else (some (IntKind.u64.wrap (a0)))
set_option maxHeartbeats 8000000 in
set_option maxRecDepth 100000 in
theorem prod_size.calls (a0 : Int) (r : Int) (w : World) (h : prod_size.f a0 = some r) :
    Calls Try.prog 42 #[.int .i64 a0] w fun e w' => e = .returned (.int .u64 r) ∧ Drawn0 w w' := by
  have H : (if a0 < 0 then (some (IntKind.u64.wrap (-(IntKind.u64.wrap (a0))))) else (some (IntKind.u64.wrap (a0)))) = some r := h
  clear h
  by_cases c2 : a0 < 0
  · rw [if_pos c2] at H
    have c2b0 : decide (a0 < 0) = true := decide_eq_true c2
    clear c2
    obtain rfl := Option.some.inj H
    go_enter Try.func42, Try.ntmps42
    go_wp2
    all_goals (go_ret; exact ⟨by first | rfl | (simp; done) | (simp [*]; done), by repeat (first | exact Drawn0.refl _ | apply Drawn0.step)⟩)
  · rw [if_neg c2] at H
    have c2b0 : decide (a0 < 0) = false := decide_eq_false c2
    clear c2
    obtain rfl := Option.some.inj H
    go_enter Try.func42, Try.ntmps42
    go_wp2
    all_goals (go_ret; exact ⟨by first | rfl | (simp; done) | (simp [*]; done), by repeat (first | exact Drawn0.refl _ | apply Drawn0.step)⟩)

/-! ### prod_Square: function 23 -/
def prod_Square.f (a0 : Int) : Option (Int × Int) := (prod_size.f a0).bind fun t105 => ((prod_size.f a0).bind fun t106 => ((prod_Mul.f t105 t106).bind fun bt107 => (some (bt107.1, bt107.2))))
set_option maxHeartbeats 8000000 in
set_option maxRecDepth 100000 in
theorem prod_Square.calls (a0 : Int) (r1 : Int) (r2 : Int) (w : World) (h : prod_Square.f a0 = some (r1, r2)) :
    Calls Try.prog 23 #[.int .i64 a0] w fun e w' => e = .returned (.agg #[.int .u64 r1, .int .u64 r2]) ∧ Below w.heap.size w w' := by
  have hu38 := Try.underlying38
  have HB := Aside0.mk (Below.refl w.heap.size w)
  have H : ((prod_size.f a0).bind fun t105 => ((prod_size.f a0).bind fun t106 => ((prod_Mul.f t105 t106).bind fun bt107 => (some (bt107.1, bt107.2))))) = some (r1, r2) := h
  clear h
  replace H := Option.bind_eq_some_iff.mp H
  obtain ⟨t105, A20, H⟩ := H
  replace H : ((prod_size.f a0).bind fun t106 => ((prod_Mul.f t105 t106).bind fun bt107 => (some (bt107.1, bt107.2)))) = some (r1, r2) := H
  have A2 := Aside0.mk A20
  clear A20
  replace H := Option.bind_eq_some_iff.mp H
  obtain ⟨t106, A30, H⟩ := H
  replace H : ((prod_Mul.f t105 t106).bind fun bt107 => (some (bt107.1, bt107.2))) = some (r1, r2) := H
  have A3 := Aside0.mk A30
  obtain rfl : t105 = t106 := Option.some.inj (A2.out.symm.trans A3.out)
  clear A30
  replace H := Option.bind_eq_some_iff.mp H
  obtain ⟨⟨t107, t108⟩, A40, H⟩ := H
  replace H : (some (t107, t108)) = some (r1, r2) := H
  have A4 := Aside0.mk A40
  clear A40
  simp only [Option.some.injEq, Prod.mk.injEq] at H
  obtain ⟨rfl, rfl⟩ := H
  go_enter Try.func23, Try.ntmps23
  go_wp2_with (first | ((with_reducible refine gate_dst (N := 2) rfl ?_); refine box_event ?hg (N := 2) ?hd (cs := #[.int .u64 0, .int .u64 0]) (t := 38) ?hr ?_; (case hd => rfl); (case hg => rfl); (case hr => first | (go_simp; done) | (go_simp; rfl)); intro gb104 hg w5 hbox hb; have n0_ := Aside0.mk (below_step (by repeat (first | (with_reducible first | exact HB.out | apply below_alloc | apply pw_below_drewN | apply below_drew1) | exact HB.out)) hb); have n1_ := Aside0.mk (hbox); have n2_ := Aside0.mk ((by rw [hg]; exact (below_size (by repeat (first | (with_reducible first | exact HB.out | apply below_alloc | apply pw_below_drewN | apply below_drew1) | exact HB.out))) : w.heap.size ≤ gb104)); have n3_ := Aside0.mk ((by rw [hg]; exact (below_size (by repeat (first | (with_reducible first | exact HB.out | apply below_alloc | apply pw_below_drewN | apply below_drew1) | exact HB.out))) : w.heap.size ≤ gb104)); clear HB; have HB := n0_; have BK104 := n1_; have GW104 := n2_; have GE104 := n3_; clear n0_ n1_ n2_ n3_; clear hb hbox hg) | ((with_reducible refine gate_callee (f := 42) rfl ?_); refine goesL_ (some 4) rfl rfl Try.func42 (by kernel_rfl) rfl #[.int .i64 a0] rfl (by (try simp only [List.map_toArray, List.map_cons, List.map_nil]); first | done | rfl | (simp only [List.length_drop, List.length_take]; rfl)) ?_; (with_reducible refine (prod_size.calls a0 t105 _ A2.out).mono ?_); rintro e w' ⟨rfl, ⟨nd, rfl⟩⟩; refine ⟨_, rfl, ?_⟩; (try (rw [drewN_self w5]; generalize hq_ : World.drewN w5 _ = w5; have n0_ : Aside0 (w5.heap[gb104]? = some (.cells #[.int .u64 0, .int .u64 0] 38 (0, 0))) := ⟨by rw [← hq_]; exact (by (with_reducible repeat (first | refine blk_drewN ?_ _ | refine blk_drew ?_ | refine blk_alloc ?_ _)); exact BK104.out)⟩; have n1_ : Aside0 (Below w.heap.size w w5) := ⟨by rw [← hq_]; exact (by repeat (first | (with_reducible first | exact HB.out | apply below_alloc | apply pw_below_drewN | apply below_drew1 | refine below_set ?_ GE104.out) | exact HB.out))⟩; clear BK104 HB hq_; have BK104 := n0_; have HB := n1_; clear n0_ n1_; have hcy104_0 : w5.cell? ⟨gb104, 0, none⟩ = some (.int .u64 0) := (blk_cell BK104.out 0).trans rfl; have hfy104_0 := blk_frozen BK104.out 0; have hcy104_1 : w5.cell? ⟨gb104, 1, none⟩ = some (.int .u64 0) := (blk_cell BK104.out 1).trans rfl; have hfy104_1 := blk_frozen BK104.out 1))) | ((with_reducible refine gate_callee (f := 42) rfl ?_); refine goesL_ (some 6) rfl rfl Try.func42 (by kernel_rfl) rfl #[.int .i64 a0] rfl (by (try simp only [List.map_toArray, List.map_cons, List.map_nil]); first | done | rfl | (simp only [List.length_drop, List.length_take]; rfl)) ?_; (with_reducible refine (prod_size.calls a0 t105 _ A3.out).mono ?_); rintro e w' ⟨rfl, ⟨nd, rfl⟩⟩; refine ⟨_, rfl, ?_⟩; (try (rw [drewN_self w5]; generalize hq_ : World.drewN w5 _ = w5; have n0_ : Aside0 (w5.heap[gb104]? = some (.cells #[.int .u64 0, .int .u64 0] 38 (0, 0))) := ⟨by rw [← hq_]; exact (by (with_reducible repeat (first | refine blk_drewN ?_ _ | refine blk_drew ?_ | refine blk_alloc ?_ _)); exact BK104.out)⟩; have n1_ : Aside0 (Below w.heap.size w w5) := ⟨by rw [← hq_]; exact (by repeat (first | (with_reducible first | exact HB.out | apply below_alloc | apply pw_below_drewN | apply below_drew1 | refine below_set ?_ GE104.out) | exact HB.out))⟩; clear BK104 HB hq_; have BK104 := n0_; have HB := n1_; clear n0_ n1_; have hcy104_0 : w5.cell? ⟨gb104, 0, none⟩ = some (.int .u64 0) := (blk_cell BK104.out 0).trans rfl; have hfy104_0 := blk_frozen BK104.out 0; have hcy104_1 : w5.cell? ⟨gb104, 1, none⟩ = some (.int .u64 0) := (blk_cell BK104.out 1).trans rfl; have hfy104_1 := blk_frozen BK104.out 1))) | ((with_reducible refine gate_callee (f := 31) rfl ?_); refine goesL_ (some 7) rfl rfl Try.func31 (by kernel_rfl) rfl #[.int .u64 t105, .int .u64 t105] rfl (by (try simp only [List.map_toArray, List.map_cons, List.map_nil]); first | done | rfl | (simp only [List.length_drop, List.length_take]; rfl)) ?_; (with_reducible refine (prod_Mul.calls t105 t105 t107 t108 _ A4.out).mono ?_); rintro e w6 ⟨rfl, hb⟩; refine ⟨_, rfl, ?_⟩; have n0_ := Aside0.mk (blk_below (g := gb104) (o := .cells #[.int .u64 0, .int .u64 0] 38 (0, 0)) (by (with_reducible repeat (first | refine blk_drewN ?_ _ | refine blk_drew ?_ | refine blk_alloc ?_ _)); exact BK104.out) hb); have n1_ := Aside0.mk (below_step (by repeat (first | (with_reducible first | exact HB.out | apply below_alloc | apply pw_below_drewN | apply below_drew1 | refine below_set ?_ GE104.out) | exact HB.out)) hb); clear BK104; clear HB; have BK104 := n0_; have HB := n1_; clear n0_ n1_; (try clear hb); (try clear hb2); (try clear hk); (try clear hi); have hcz7_0 : w6.cell? ⟨gb104, 0, none⟩ = some (.int .u64 0) := (blk_cell BK104.out 0).trans rfl; have hcz7_1 : w6.cell? ⟨gb104, 1, none⟩ = some (.int .u64 0) := (blk_cell BK104.out 1).trans rfl; have hfz7_0 := blk_frozen BK104.out 0; have hfz7_1 := blk_frozen BK104.out 1))
  refine bodyPost_ret (results_cell_row rfl _ _ gb104 38 #[.int .u64 t107, .int .u64 t108] (0, 0) _ rfl (by (with_reducible repeat (first | refine blk_drewN ?_ _ | refine blk_drew ?_ | refine blk_alloc ?_ _)); refine blk_put (cs := #[.int .u64 t107, .int .u64 0]) ?_ 1 _ rfl; (with_reducible repeat (first | refine blk_drewN ?_ _ | refine blk_drew ?_ | refine blk_alloc ?_ _)); refine blk_put (cs := #[.int .u64 0, .int .u64 0]) ?_ 0 _ rfl; (with_reducible repeat (first | refine blk_drewN ?_ _ | refine blk_drew ?_ | refine blk_alloc ?_ _)); exact BK104.out) Try.underlying38 rfl (by kernel_rfl)) rfl ?_
  exact ⟨by first | rfl | (simp [errW_none, errW_some] <;> rfl) | (simp [*, errW_none, errW_some] <;> rfl), by repeat (first | (with_reducible first | exact HB.out | apply below_alloc | apply pw_below_drewN | apply below_drew1 | refine below_set ?_ GE104.out) | exact HB.out)⟩

/-! ### hornbeamlaw04_fixed: function 12 -/
def hornbeamlaw04_fixed.f  : Option (Bool) := (prod_Floor.f (-7) 2).bind fun bt109 => (if bt109.2 = 0 then (if bt109.1 = (-4) then ((prod_Square.f (-9223372036854775808)).bind fun bt111 => (some (bt111.1 == 4611686018427387904 && (bt111.2 == 0)))) else (some false)) else (some false))
set_option maxHeartbeats 8000000 in
set_option maxRecDepth 100000 in
theorem hornbeamlaw04_fixed.calls  (r : Bool) (w : World) (h : hornbeamlaw04_fixed.f  = some r) :
    Calls Try.prog 12 #[] w fun e w' => e = .returned (.bool r) ∧ Below w.heap.size w w' := by
  have hu38 := Try.underlying38
  have HB := Aside0.mk (Below.refl w.heap.size w)
  have H : ((prod_Floor.f (-7) 2).bind fun bt109 => (if bt109.2 = 0 then (if bt109.1 = (-4) then ((prod_Square.f (-9223372036854775808)).bind fun bt111 => (some (bt111.1 == 4611686018427387904 && (bt111.2 == 0)))) else (some false)) else (some false))) = some r := h
  clear h
  replace H := Option.bind_eq_some_iff.mp H
  obtain ⟨⟨t109, t110⟩, A10, H⟩ := H
  replace H : (if t110 = 0 then (if t109 = (-4) then ((prod_Square.f (-9223372036854775808)).bind fun bt111 => (some (bt111.1 == 4611686018427387904 && (bt111.2 == 0)))) else (some false)) else (some false)) = some r := H
  have A1 := Aside0.mk A10
  clear A10
  by_cases c2 : t110 = 0
  · rw [if_pos c2] at H
    have c2b0 : (t110 == 0) = true := beq_iff_eq.mpr c2
    have c2b1 : (t110 != 0) = false := bne_eq_false_iff_eq.mpr c2
    clear c2
    by_cases c3 : t109 = (-4)
    · rw [if_pos c3] at H
      have c3b0 : (t109 == (-4)) = true := beq_iff_eq.mpr c3
      have c3b1 : (t109 != (-4)) = false := bne_eq_false_iff_eq.mpr c3
      clear c3
      replace H := Option.bind_eq_some_iff.mp H
      obtain ⟨⟨t111, t112⟩, A40, H⟩ := H
      replace H : (some (t111 == 4611686018427387904 && (t112 == 0))) = some r := H
      have A4 := Aside0.mk A40
      clear A40
      obtain rfl := Option.some.inj H
      go_enter Try.func12, Try.ntmps12
      go_wp2_with (first | ((with_reducible refine gate_callee (f := 11) rfl ?_); refine goesL_ (some 4) rfl rfl Try.func11 (by kernel_rfl) rfl #[.int .i64 (-7), .int .i64 2] rfl (by (try simp only [List.map_toArray, List.map_cons, List.map_nil]); first | done | rfl | (simp only [List.length_drop, List.length_take]; rfl)) ?_; (with_reducible refine (prod_Floor.calls (-7) 2 t109 t110 _ A1.out).mono ?_); rintro e w' ⟨rfl, ⟨nd, rfl⟩⟩; refine ⟨_, rfl, ?_⟩) | (go_at_call 23; (with_reducible refine (prod_Square.calls (-9223372036854775808) t111 t112 _ A4.out).mono ?_); rintro e w5 ⟨rfl, hb⟩; have n0_ := Aside0.mk (below_step (by repeat (first | (with_reducible first | exact HB.out | apply below_alloc | apply pw_below_drewN | apply below_drew1) | exact HB.out)) hb); clear HB; have HB := n0_; clear n0_; (try clear hb); (try clear hb2); (try clear hk); (try clear hi)))
      all_goals (go_ret; exact ⟨by first | rfl | (simp [errW_none, errW_some] <;> rfl) | (simp [*, errW_none, errW_some] <;> rfl) | (simp_all; done), by repeat (first | (with_reducible first | exact HB.out | apply below_alloc | apply pw_below_drewN | apply below_drew1) | exact HB.out)⟩)
    · rw [if_neg c3] at H
      have c3b0 : (t109 == (-4)) = false := beq_eq_false_iff_ne.mpr c3
      have c3b1 : (t109 != (-4)) = true := bne_iff_ne.mpr c3
      obtain rfl := Option.some.inj H
      go_enter Try.func12, Try.ntmps12
      go_wp2_with (first | ((with_reducible refine gate_callee (f := 11) rfl ?_); refine goesL_ (some 4) rfl rfl Try.func11 (by kernel_rfl) rfl #[.int .i64 (-7), .int .i64 2] rfl (by (try simp only [List.map_toArray, List.map_cons, List.map_nil]); first | done | rfl | (simp only [List.length_drop, List.length_take]; rfl)) ?_; (with_reducible refine (prod_Floor.calls (-7) 2 t109 t110 _ A1.out).mono ?_); rintro e w' ⟨rfl, ⟨nd, rfl⟩⟩; refine ⟨_, rfl, ?_⟩))
      all_goals (go_ret; exact ⟨by first | rfl | (simp [errW_none, errW_some] <;> rfl) | (simp [*, errW_none, errW_some] <;> rfl) | (simp_all; done), by repeat (first | (with_reducible first | exact HB.out | apply below_alloc | apply pw_below_drewN | apply below_drew1) | exact HB.out)⟩)
  · rw [if_neg c2] at H
    have c2b0 : (t110 == 0) = false := beq_eq_false_iff_ne.mpr c2
    have c2b1 : (t110 != 0) = true := bne_iff_ne.mpr c2
    obtain rfl := Option.some.inj H
    go_enter Try.func12, Try.ntmps12
    go_wp2_with (first | ((with_reducible refine gate_callee (f := 11) rfl ?_); refine goesL_ (some 4) rfl rfl Try.func11 (by kernel_rfl) rfl #[.int .i64 (-7), .int .i64 2] rfl (by (try simp only [List.map_toArray, List.map_cons, List.map_nil]); first | done | rfl | (simp only [List.length_drop, List.length_take]; rfl)) ?_; (with_reducible refine (prod_Floor.calls (-7) 2 t109 t110 _ A1.out).mono ?_); rintro e w' ⟨rfl, ⟨nd, rfl⟩⟩; refine ⟨_, rfl, ?_⟩))
    all_goals (go_ret; exact ⟨by first | rfl | (simp [errW_none, errW_some] <;> rfl) | (simp [*, errW_none, errW_some] <;> rfl) | (simp_all; done), by repeat (first | (with_reducible first | exact HB.out | apply below_alloc | apply pw_below_drewN | apply below_drew1) | exact HB.out)⟩)

/-! ### prod_Plus: function 16 -/
def prod_Plus.f (a0 : Int) (a1 : Int) : Option (Int × Int) := if ((decide (a0 < 0)) == (decide (a1 < 0))) = true then (if ((decide ((wrap64 (a0 + a1)) < 0)) != (decide (a0 < 0))) = true then (some (0, 6)) else (some (wrap64 (a0 + a1), 0))) else (some (wrap64 (a0 + a1), 0))
set_option maxHeartbeats 8000000 in
set_option maxRecDepth 100000 in
theorem prod_Plus.calls (a0 : Int) (a1 : Int) (r1 : Int) (r2 : Int) (w : World) (h : prod_Plus.f a0 a1 = some (r1, r2)) :
    Calls Try.prog 16 #[.int .i64 a0, .int .i64 a1] w fun e w' => e = .returned (.tuple #[.int .i64 r1, .int .i64 r2]) ∧ Drawn0 w w' := by
  have H : (if ((decide (a0 < 0)) == (decide (a1 < 0))) = true then (if ((decide ((wrap64 (a0 + a1)) < 0)) != (decide (a0 < 0))) = true then (some (0, 6)) else (some (wrap64 (a0 + a1), 0))) else (some (wrap64 (a0 + a1), 0))) = some (r1, r2) := h
  clear h
  by_cases c3 : ((decide (a0 < 0)) == (decide (a1 < 0))) = true
  · rw [if_pos c3] at H
    have c3b0 : ((decide (a0 < 0)) == (decide (a1 < 0))) = true := c3
    (try (have c3b1 : decide ((decide (a0 < 0)) = (decide (a1 < 0))) = true := by simpa using c3))
    (try (have c3b2 : ((decide (a0 < 0)) == (decide (a1 < 0))) = true := by simpa using c3))
    clear c3
    by_cases c4 : ((decide ((wrap64 (a0 + a1)) < 0)) != (decide (a0 < 0))) = true
    · rw [if_pos c4] at H
      have c4b0 : ((decide ((wrap64 (a0 + a1)) < 0)) != (decide (a0 < 0))) = true := c4
      (try (have c4b1 : decide ((decide ((wrap64 (a0 + a1)) < 0)) = (decide (a0 < 0))) = false := by simpa using c4))
      (try (have c4b2 : ((decide ((wrap64 (a0 + a1)) < 0)) == (decide (a0 < 0))) = false := by simpa using c4))
      (try (have c4b3 : ¬ ((decide ((wrap64 (a0 + a1)) < 0)) = (decide (a0 < 0))) := by simpa using c4))
      clear c4
      simp only [Option.some.injEq, Prod.mk.injEq] at H
      obtain ⟨rfl, rfl⟩ := H
      go_enter Try.func16, Try.ntmps16
      go_wp2
      all_goals (go_ret2; exact ⟨by first | rfl | (simp; done) | (simp [*]; done), by repeat (first | exact Drawn0.refl _ | apply Drawn0.step)⟩)
    · rw [if_neg c4] at H
      have c4b0 : ((decide ((wrap64 (a0 + a1)) < 0)) != (decide (a0 < 0))) = false := by simpa using c4
      (try (have c4b1 : decide ((decide ((wrap64 (a0 + a1)) < 0)) = (decide (a0 < 0))) = true := by simpa using c4))
      (try (have c4b2 : ((decide ((wrap64 (a0 + a1)) < 0)) == (decide (a0 < 0))) = true := by simpa using c4))
      clear c4
      simp only [Option.some.injEq, Prod.mk.injEq] at H
      obtain ⟨rfl, rfl⟩ := H
      go_enter Try.func16, Try.ntmps16
      go_wp2
      all_goals (go_ret2; exact ⟨by first | rfl | (simp; done) | (simp [*]; done), by repeat (first | exact Drawn0.refl _ | apply Drawn0.step)⟩)
  · rw [if_neg c3] at H
    have c3b0 : ((decide (a0 < 0)) == (decide (a1 < 0))) = false := by simpa using c3
    (try (have c3b1 : decide ((decide (a0 < 0)) = (decide (a1 < 0))) = false := by simpa using c3))
    (try (have c3b2 : ((decide (a0 < 0)) == (decide (a1 < 0))) = false := by simpa using c3))
    (try (have c3b3 : ¬ ((decide (a0 < 0)) = (decide (a1 < 0))) := by simpa using c3))
    clear c3
    simp only [Option.some.injEq, Prod.mk.injEq] at H
    obtain ⟨rfl, rfl⟩ := H
    go_enter Try.func16, Try.ntmps16
    go_wp2
    all_goals (go_ret2; exact ⟨by first | rfl | (simp; done) | (simp [*]; done), by repeat (first | exact Drawn0.refl _ | apply Drawn0.step)⟩)

/-! ### prod_Minus: function 18 -/
def prod_Minus.f (a0 : Int) (a1 : Int) : Option (Int × Int) := if ((decide (a0 < 0)) != (decide (a1 < 0))) = true then (if ((decide ((wrap64 (a0 - a1)) < 0)) != (decide (a0 < 0))) = true then (some (0, 6)) else (some (wrap64 (a0 - a1), 0))) else (some (wrap64 (a0 - a1), 0))
set_option maxHeartbeats 8000000 in
set_option maxRecDepth 100000 in
theorem prod_Minus.calls (a0 : Int) (a1 : Int) (r1 : Int) (r2 : Int) (w : World) (h : prod_Minus.f a0 a1 = some (r1, r2)) :
    Calls Try.prog 18 #[.int .i64 a0, .int .i64 a1] w fun e w' => e = .returned (.tuple #[.int .i64 r1, .int .i64 r2]) ∧ Drawn0 w w' := by
  have H : (if ((decide (a0 < 0)) != (decide (a1 < 0))) = true then (if ((decide ((wrap64 (a0 - a1)) < 0)) != (decide (a0 < 0))) = true then (some (0, 6)) else (some (wrap64 (a0 - a1), 0))) else (some (wrap64 (a0 - a1), 0))) = some (r1, r2) := h
  clear h
  by_cases c3 : ((decide (a0 < 0)) != (decide (a1 < 0))) = true
  · rw [if_pos c3] at H
    have c3b0 : ((decide (a0 < 0)) != (decide (a1 < 0))) = true := c3
    (try (have c3b1 : decide ((decide (a0 < 0)) = (decide (a1 < 0))) = false := by simpa using c3))
    (try (have c3b2 : ((decide (a0 < 0)) == (decide (a1 < 0))) = false := by simpa using c3))
    (try (have c3b3 : ¬ ((decide (a0 < 0)) = (decide (a1 < 0))) := by simpa using c3))
    clear c3
    by_cases c4 : ((decide ((wrap64 (a0 - a1)) < 0)) != (decide (a0 < 0))) = true
    · rw [if_pos c4] at H
      have c4b0 : ((decide ((wrap64 (a0 - a1)) < 0)) != (decide (a0 < 0))) = true := c4
      (try (have c4b1 : decide ((decide ((wrap64 (a0 - a1)) < 0)) = (decide (a0 < 0))) = false := by simpa using c4))
      (try (have c4b2 : ((decide ((wrap64 (a0 - a1)) < 0)) == (decide (a0 < 0))) = false := by simpa using c4))
      (try (have c4b3 : ¬ ((decide ((wrap64 (a0 - a1)) < 0)) = (decide (a0 < 0))) := by simpa using c4))
      clear c4
      simp only [Option.some.injEq, Prod.mk.injEq] at H
      obtain ⟨rfl, rfl⟩ := H
      go_enter Try.func18, Try.ntmps18
      go_wp2
      all_goals (go_ret2; exact ⟨by first | rfl | (simp; done) | (simp [*]; done), by repeat (first | exact Drawn0.refl _ | apply Drawn0.step)⟩)
    · rw [if_neg c4] at H
      have c4b0 : ((decide ((wrap64 (a0 - a1)) < 0)) != (decide (a0 < 0))) = false := by simpa using c4
      (try (have c4b1 : decide ((decide ((wrap64 (a0 - a1)) < 0)) = (decide (a0 < 0))) = true := by simpa using c4))
      (try (have c4b2 : ((decide ((wrap64 (a0 - a1)) < 0)) == (decide (a0 < 0))) = true := by simpa using c4))
      clear c4
      simp only [Option.some.injEq, Prod.mk.injEq] at H
      obtain ⟨rfl, rfl⟩ := H
      go_enter Try.func18, Try.ntmps18
      go_wp2
      all_goals (go_ret2; exact ⟨by first | rfl | (simp; done) | (simp [*]; done), by repeat (first | exact Drawn0.refl _ | apply Drawn0.step)⟩)
  · rw [if_neg c3] at H
    have c3b0 : ((decide (a0 < 0)) != (decide (a1 < 0))) = false := by simpa using c3
    (try (have c3b1 : decide ((decide (a0 < 0)) = (decide (a1 < 0))) = true := by simpa using c3))
    (try (have c3b2 : ((decide (a0 < 0)) == (decide (a1 < 0))) = true := by simpa using c3))
    clear c3
    simp only [Option.some.injEq, Prod.mk.injEq] at H
    obtain ⟨rfl, rfl⟩ := H
    go_enter Try.func18, Try.ntmps18
    go_wp2
    all_goals (go_ret2; exact ⟨by first | rfl | (simp; done) | (simp [*]; done), by repeat (first | exact Drawn0.refl _ | apply Drawn0.step)⟩)

/-! ### prod_Product: function 20 -/
def prod_Product.j0 : Nat → Bool → Bool → Int → Int → Option (Int × Int)
  | 0, _, _, _, _ => none
  | k + 1, x7, x22, x118000, x118001 => if x22 = true then (some (wrap64 (x118001), 0)) else (if x7 = true then (if x118001 ≤ 9223372036854775808 then (some (wrap64 (-(wrap64 (x118001))), 0)) else (some (0, 6))) else (some (0, 6)))
def prod_Product.f (k : Nat) (a0 : Int) (a1 : Int) : Option (Int × Int) := (prod_size.f a0).bind fun t113 => ((prod_size.f a1).bind fun t114 => ((prod_Mul.f t113 t114).bind fun bt115 => (if bt115.1 = 0 then (if (((decide (a0 < 0)) != (decide (a1 < 0))) = true) then (prod_Product.j0 k ((decide (a0 < 0)) != (decide (a1 < 0))) false bt115.1 bt115.2) else (prod_Product.j0 k ((decide (a0 < 0)) != (decide (a1 < 0))) (decide (bt115.2 ≤ 9223372036854775807)) bt115.1 bt115.2)) else (some (0, 6)))))
theorem prod_Product.mono_l : ∀ k, (∀ y0 y1 y2 y3, LeO (prod_Product.j0 k y0 y1 y2 y3) (prod_Product.j0 (k + 1) y0 y1 y2 y3))
  | 0 => fun _ _ _ _ r h => by simp [prod_Product.j0] at h
  | k + 1 => by
    have ih0 := prod_Product.mono_l k
    · intro y0 y1 y2 y3
      unfold prod_Product.j0
      repeat' first
      | (with_reducible exact ih0 _ _ _ _)
      | (with_reducible exact LeO.refl _)
      | (with_reducible exact LeO.none _)
      | (with_reducible refine LeO.ite ?_ ?_)
      | (with_reducible refine LeO.bind ?_ (fun _ => ?_))
      | exact ih0 _ _ _ _
      | exact LeO.none _
      | refine LeO.ite ?_ ?_
      | refine LeO.bind ?_ (fun _ => ?_)
theorem prod_Product.mono : ∀ a0 a1 k, LeO (prod_Product.f k a0 a1) (prod_Product.f (k + 1) a0 a1) := by
  intro a0 a1 k
  have ih0 := prod_Product.mono_l k
  unfold prod_Product.f
  repeat' first
      | (with_reducible exact ih0 _ _ _ _)
      | (with_reducible exact LeO.refl _)
      | (with_reducible exact LeO.none _)
      | (with_reducible refine LeO.ite ?_ ?_)
      | (with_reducible refine LeO.bind ?_ (fun _ => ?_))
      | exact ih0 _ _ _ _
      | exact LeO.none _
      | refine LeO.ite ?_ ?_
      | refine LeO.bind ?_ (fun _ => ?_)
set_option maxHeartbeats 8000000 in
set_option maxRecDepth 100000 in
theorem prod_Product.calls (k : Nat) (a0 : Int) (a1 : Int) (r1 : Int) (r2 : Int) (w : World) (h : prod_Product.f k a0 a1 = some (r1, r2)) :
    Calls Try.prog 20 #[.int .i64 a0, .int .i64 a1] w fun e w' => e = .returned (.tuple #[.int .i64 r1, .int .i64 r2]) ∧ Below w.heap.size w w' := by
  have hu38 := Try.underlying38
  have HB := Aside0.mk (Below.refl w.heap.size w)
  have H : ((prod_size.f a0).bind fun t113 => ((prod_size.f a1).bind fun t114 => ((prod_Mul.f t113 t114).bind fun bt115 => (if bt115.1 = 0 then (if (((decide (a0 < 0)) != (decide (a1 < 0))) = true) then (prod_Product.j0 k ((decide (a0 < 0)) != (decide (a1 < 0))) false bt115.1 bt115.2) else (prod_Product.j0 k ((decide (a0 < 0)) != (decide (a1 < 0))) (decide (bt115.2 ≤ 9223372036854775807)) bt115.1 bt115.2)) else (some (0, 6)))))) = some (r1, r2) := h
  clear h
  replace H := Option.bind_eq_some_iff.mp H
  obtain ⟨t113, A30, H⟩ := H
  replace H : ((prod_size.f a1).bind fun t114 => ((prod_Mul.f t113 t114).bind fun bt115 => (if bt115.1 = 0 then (if (((decide (a0 < 0)) != (decide (a1 < 0))) = true) then (prod_Product.j0 k ((decide (a0 < 0)) != (decide (a1 < 0))) false bt115.1 bt115.2) else (prod_Product.j0 k ((decide (a0 < 0)) != (decide (a1 < 0))) (decide (bt115.2 ≤ 9223372036854775807)) bt115.1 bt115.2)) else (some (0, 6))))) = some (r1, r2) := H
  have A3 := Aside0.mk A30
  clear A30
  replace H := Option.bind_eq_some_iff.mp H
  obtain ⟨t114, A40, H⟩ := H
  replace H : ((prod_Mul.f t113 t114).bind fun bt115 => (if bt115.1 = 0 then (if (((decide (a0 < 0)) != (decide (a1 < 0))) = true) then (prod_Product.j0 k ((decide (a0 < 0)) != (decide (a1 < 0))) false bt115.1 bt115.2) else (prod_Product.j0 k ((decide (a0 < 0)) != (decide (a1 < 0))) (decide (bt115.2 ≤ 9223372036854775807)) bt115.1 bt115.2)) else (some (0, 6)))) = some (r1, r2) := H
  have A4 := Aside0.mk A40
  clear A40
  replace H := Option.bind_eq_some_iff.mp H
  obtain ⟨⟨t115, t116⟩, A50, H⟩ := H
  replace H : (if t115 = 0 then (if (((decide (a0 < 0)) != (decide (a1 < 0))) = true) then (prod_Product.j0 k ((decide (a0 < 0)) != (decide (a1 < 0))) false t115 t116) else (prod_Product.j0 k ((decide (a0 < 0)) != (decide (a1 < 0))) (decide (t116 ≤ 9223372036854775807)) t115 t116)) else (some (0, 6))) = some (r1, r2) := H
  have A5 := Aside0.mk A50
  clear A50
  by_cases c6 : t115 = 0
  · rw [if_pos c6] at H
    have c6b0 : (t115 == 0) = true := beq_iff_eq.mpr c6
    have c6b1 : (t115 != 0) = false := bne_eq_false_iff_eq.mpr c6
    clear c6
    have HC7 := Aside0.mk H
    clear H
    go_enter Try.func20, Try.ntmps20
    go_upto_region 4 with (first | ((with_reducible refine gate_callee (f := 42) rfl ?_); refine goesL_ (some 9) rfl rfl Try.func42 (by kernel_rfl) rfl #[.int .i64 a0] rfl (by (try simp only [List.map_toArray, List.map_cons, List.map_nil]); first | done | rfl | (simp only [List.length_drop, List.length_take]; rfl)) ?_; (with_reducible refine (prod_size.calls a0 t113 _ A3.out).mono ?_); rintro e w' ⟨rfl, ⟨nd, rfl⟩⟩; refine ⟨_, rfl, ?_⟩) | ((with_reducible refine gate_callee (f := 42) rfl ?_); refine goesL_ (some 11) rfl rfl Try.func42 (by kernel_rfl) rfl #[.int .i64 a1] rfl (by (try simp only [List.map_toArray, List.map_cons, List.map_nil]); first | done | rfl | (simp only [List.length_drop, List.length_take]; rfl)) ?_; (with_reducible refine (prod_size.calls a1 t114 _ A4.out).mono ?_); rintro e w' ⟨rfl, ⟨nd, rfl⟩⟩; refine ⟨_, rfl, ?_⟩) | ((with_reducible refine gate_callee (f := 31) rfl ?_); refine goesL_ (some 12) rfl rfl Try.func31 (by kernel_rfl) rfl #[.int .u64 t113, .int .u64 t114] rfl (by (try simp only [List.map_toArray, List.map_cons, List.map_nil]); first | done | rfl | (simp only [List.length_drop, List.length_take]; rfl)) ?_; (with_reducible refine (prod_Mul.calls t113 t114 t115 t116 _ A5.out).mono ?_); rintro e w8 ⟨rfl, hb⟩; refine ⟨_, rfl, ?_⟩; have n0_ := Aside0.mk (below_step (by repeat (first | (with_reducible first | exact HB.out | apply below_alloc | apply pw_below_drewN | apply below_drew1) | exact HB.out)) hb); clear HB; have HB := n0_; clear n0_; (try clear hb); (try clear hb2); (try clear hk); (try clear hi)) | ((with_reducible refine gate_dst (N := 6) rfl ?_); refine box_event ?hg (N := 6) ?hd (cs := #[.int .u64 0, .int .u64 0]) (t := 38) ?hr ?_; (case hd => rfl); (case hg => rfl); (case hr => first | (go_simp; done) | (go_simp; rfl)); intro gb117 hg w9 hbox hb; have n0_ := Aside0.mk (below_step (by repeat (first | (with_reducible first | exact HB.out | apply below_alloc | apply pw_below_drewN | apply below_drew1) | exact HB.out)) hb); have n1_ := Aside0.mk (hbox); have n2_ := Aside0.mk ((by rw [hg]; exact (below_size (by repeat (first | (with_reducible first | exact HB.out | apply below_alloc | apply pw_below_drewN | apply below_drew1) | exact HB.out))) : w.heap.size ≤ gb117)); have n3_ := Aside0.mk ((by rw [hg]; exact (below_size (by repeat (first | (with_reducible first | exact HB.out | apply below_alloc | apply pw_below_drewN | apply below_drew1) | exact HB.out))) : w.heap.size ≤ gb117)); clear HB; have HB := n0_; have BK117 := n1_; have GW117 := n2_; have GE117 := n3_; clear n0_ n1_ n2_ n3_; clear hb hbox hg; have hcz10_0 : w9.cell? ⟨gb117, 0, none⟩ = some (.int .u64 0) := (blk_cell BK117.out 0).trans rfl; have hcz10_1 : w9.cell? ⟨gb117, 1, none⟩ = some (.int .u64 0) := (blk_cell BK117.out 1).trans rfl; have hfz10_0 := blk_frozen BK117.out 0; have hfz10_1 := blk_frozen BK117.out 1))
    (try simp only [Act.put, List.setIfInBounds_toArray, List.set_cons_zero, List.set_cons_succ])
    go_cut [22] (fun v22 wc => ∃ (kq : Nat) (x22_6 : Bool), v22 = .bool x22_6 ∧ Aside0 (prod_Product.j0 kq ((decide (a0 < 0)) != (decide (a1 < 0))) x22_6 t115 t116 = some (r1, r2)) ∧ Aside0 (kq ≤ k) ∧ Aside0 (wc.heap[gb117]? = some (.cells #[.int .u64 t115, .int .u64 t116] 38 (0, 0))) ∧ Aside0 (Below w.heap.size w wc))
    case first =>
      have H := HC7.out
      clear HC7
      by_cases c11 : (((decide (a0 < 0)) != (decide (a1 < 0))) = true)
      · rw [if_pos c11] at H
        have c11b0 : ((decide (a0 < 0)) != (decide (a1 < 0))) = true := c11
        (try (have c11b1 : decide ((decide (a0 < 0)) = (decide (a1 < 0))) = false := by simpa using c11))
        (try (have c11b2 : ((decide (a0 < 0)) == (decide (a1 < 0))) = false := by simpa using c11))
        (try (have c11b3 : ¬ ((decide (a0 < 0)) = (decide (a1 < 0))) := by simpa using c11))
        clear c11
        (first | rw [c11b0] | (simp only [i64_w, i32_w]; rw [c11b0]) | skip)
        have H' := Aside0.mk H
        clear H
        go_wp2
        go_meet
        case rel => exact ⟨_, (false), (by first | rfl | (simp; done) | (simp [*]; done)), H', ⟨by first | omega | exact Nat.le_refl _⟩, ⟨by (with_reducible repeat (first | refine blk_drewN ?_ _ | refine blk_drew ?_ | refine blk_alloc ?_ _)); refine blk_put (cs := #[.int .u64 t115, .int .u64 0]) ?_ 1 _ rfl; (with_reducible repeat (first | refine blk_drewN ?_ _ | refine blk_drew ?_ | refine blk_alloc ?_ _)); refine blk_put (cs := #[.int .u64 0, .int .u64 0]) ?_ 0 _ rfl; (with_reducible repeat (first | refine blk_drewN ?_ _ | refine blk_drew ?_ | refine blk_alloc ?_ _)); exact BK117.out⟩, ⟨by repeat (first | (with_reducible first | exact HB.out | apply below_alloc | apply pw_below_drewN | apply below_drew1 | refine below_set ?_ GE117.out) | exact HB.out)⟩⟩
      · rw [if_neg c11] at H
        have c11b0 : ((decide (a0 < 0)) != (decide (a1 < 0))) = false := by simpa using c11
        (try (have c11b1 : decide ((decide (a0 < 0)) = (decide (a1 < 0))) = true := by simpa using c11))
        (try (have c11b2 : ((decide (a0 < 0)) == (decide (a1 < 0))) = true := by simpa using c11))
        clear c11
        (first | rw [c11b0] | (simp only [i64_w, i32_w]; rw [c11b0]) | skip)
        have H' := Aside0.mk H
        clear H
        have hcz12_0 : w9.cell? ⟨gb117, 0, none⟩ = some (.int .u64 0) := (blk_cell BK117.out 0).trans rfl
        have hcz12_1 : w9.cell? ⟨gb117, 1, none⟩ = some (.int .u64 0) := (blk_cell BK117.out 1).trans rfl
        have hfz12_0 := blk_frozen BK117.out 0
        have hfz12_1 := blk_frozen BK117.out 1
        go_wp2
        go_meet
        case rel => exact ⟨_, (decide (t116 ≤ 9223372036854775807)), (by first | rfl | (simp; done) | (simp [*]; done)), H', ⟨by first | omega | exact Nat.le_refl _⟩, ⟨by (with_reducible repeat (first | refine blk_drewN ?_ _ | refine blk_drew ?_ | refine blk_alloc ?_ _)); refine blk_put (cs := #[.int .u64 t115, .int .u64 0]) ?_ 1 _ rfl; (with_reducible repeat (first | refine blk_drewN ?_ _ | refine blk_drew ?_ | refine blk_alloc ?_ _)); refine blk_put (cs := #[.int .u64 0, .int .u64 0]) ?_ 0 _ rfl; (with_reducible repeat (first | refine blk_drewN ?_ _ | refine blk_drew ?_ | refine blk_alloc ?_ _)); exact BK117.out⟩, ⟨by repeat (first | (with_reducible first | exact HB.out | apply below_alloc | apply pw_below_drewN | apply below_drew1 | refine below_set ?_ GE117.out) | exact HB.out)⟩⟩
    case rest =>
      clear HC7
      try clear c1
      try clear c2
      try clear p2
      try clear c3
      try clear c4
      try clear c6
      try clear c6b0
      try clear c6b1
      try clear c11
      try clear c11b0
      try clear c11b1
      try clear c11b2
      try clear hcz10_0
      try clear hcz10_1
      try clear hcz12_0
      try clear hcz12_1
      try clear hfz10_0
      try clear hfz10_1
      try clear hfz12_0
      try clear hfz12_1
      obtain ⟨kq, x22_6, rfl, HA, HJ6, BK117, HB⟩ := hcut
      cases kq with
      | zero => exact absurd HA.out (by simp [prod_Product.j0])
      | succ kj6 =>
        have H := HA.out
        clear HA
        simp only [prod_Product.j0] at H
        by_cases c13 : x22_6 = true
        · subst c13
          have H1 : (some (wrap64 (t116), 0)) = some (r1, r2) := by rw [if_pos rfl] at H; exact H
          clear H
          have H := H1
          clear H1
          simp only [Option.some.injEq, Prod.mk.injEq] at H
          obtain ⟨rfl, rfl⟩ := H
          have hcz14_0 : wc.cell? ⟨gb117, 0, none⟩ = some (.int .u64 t115) := (blk_cell BK117.out 0).trans rfl
          have hcz14_1 : wc.cell? ⟨gb117, 1, none⟩ = some (.int .u64 t116) := (blk_cell BK117.out 1).trans rfl
          have hfz14_0 := blk_frozen BK117.out 0
          have hfz14_1 := blk_frozen BK117.out 1
          go_wp2
          all_goals (go_ret2; exact ⟨by first | rfl | (simp [errW_none, errW_some] <;> rfl) | (simp [*, errW_none, errW_some] <;> rfl) | (simp_all; done), by repeat (first | (with_reducible first | exact HB.out | apply below_alloc | apply pw_below_drewN | apply below_drew1 | refine below_set ?_ GE117.out) | exact HB.out)⟩)
        · replace c13 := Bool.eq_false_iff.mpr c13
          subst c13
          have H1 : (if ((decide (a0 < 0)) != (decide (a1 < 0))) = true then (if t116 ≤ 9223372036854775808 then (some (wrap64 (-(wrap64 (t116))), 0)) else (some (0, 6))) else (some (0, 6))) = some (r1, r2) := by rw [if_neg (show ¬ (false = true) by decide)] at H; exact H
          clear H
          have H := H1
          clear H1
          by_cases c15 : ((decide (a0 < 0)) != (decide (a1 < 0))) = true
          · rw [if_pos c15] at H
            have c15b0 : ((decide (a0 < 0)) != (decide (a1 < 0))) = true := c15
            (try (have c15b1 : decide ((decide (a0 < 0)) = (decide (a1 < 0))) = false := by simpa using c15))
            (try (have c15b2 : ((decide (a0 < 0)) == (decide (a1 < 0))) = false := by simpa using c15))
            (try (have c15b3 : ¬ ((decide (a0 < 0)) = (decide (a1 < 0))) := by simpa using c15))
            clear c15
            by_cases c16 : t116 ≤ 9223372036854775808
            · rw [if_pos c16] at H
              have c16b0 : decide (t116 ≤ 9223372036854775808) = true := decide_eq_true c16
              clear c16
              simp only [Option.some.injEq, Prod.mk.injEq] at H
              obtain ⟨rfl, rfl⟩ := H
              have hcz17_0 : wc.cell? ⟨gb117, 0, none⟩ = some (.int .u64 t115) := (blk_cell BK117.out 0).trans rfl
              have hcz17_1 : wc.cell? ⟨gb117, 1, none⟩ = some (.int .u64 t116) := (blk_cell BK117.out 1).trans rfl
              have hfz17_0 := blk_frozen BK117.out 0
              have hfz17_1 := blk_frozen BK117.out 1
              go_wp2
              all_goals (go_ret2; exact ⟨by first | rfl | (simp [errW_none, errW_some] <;> rfl) | (simp [*, errW_none, errW_some] <;> rfl) | (simp_all; done), by repeat (first | (with_reducible first | exact HB.out | apply below_alloc | apply pw_below_drewN | apply below_drew1 | refine below_set ?_ GE117.out) | exact HB.out)⟩)
            · rw [if_neg c16] at H
              have c16b0 : decide (t116 ≤ 9223372036854775808) = false := decide_eq_false c16
              clear c16
              simp only [Option.some.injEq, Prod.mk.injEq] at H
              obtain ⟨rfl, rfl⟩ := H
              have hcz18_0 : wc.cell? ⟨gb117, 0, none⟩ = some (.int .u64 t115) := (blk_cell BK117.out 0).trans rfl
              have hcz18_1 : wc.cell? ⟨gb117, 1, none⟩ = some (.int .u64 t116) := (blk_cell BK117.out 1).trans rfl
              have hfz18_0 := blk_frozen BK117.out 0
              have hfz18_1 := blk_frozen BK117.out 1
              go_wp2
              all_goals (go_ret2; exact ⟨by first | rfl | (simp [errW_none, errW_some] <;> rfl) | (simp [*, errW_none, errW_some] <;> rfl) | (simp_all; done), by repeat (first | (with_reducible first | exact HB.out | apply below_alloc | apply pw_below_drewN | apply below_drew1 | refine below_set ?_ GE117.out) | exact HB.out)⟩)
          · rw [if_neg c15] at H
            have c15b0 : ((decide (a0 < 0)) != (decide (a1 < 0))) = false := by simpa using c15
            (try (have c15b1 : decide ((decide (a0 < 0)) = (decide (a1 < 0))) = true := by simpa using c15))
            (try (have c15b2 : ((decide (a0 < 0)) == (decide (a1 < 0))) = true := by simpa using c15))
            clear c15
            simp only [Option.some.injEq, Prod.mk.injEq] at H
            obtain ⟨rfl, rfl⟩ := H
            go_wp2
            all_goals (go_ret2; exact ⟨by first | rfl | (simp [errW_none, errW_some] <;> rfl) | (simp [*, errW_none, errW_some] <;> rfl) | (simp_all; done), by repeat (first | (with_reducible first | exact HB.out | apply below_alloc | apply pw_below_drewN | apply below_drew1 | refine below_set ?_ GE117.out) | exact HB.out)⟩)
  · rw [if_neg c6] at H
    have c6b0 : (t115 == 0) = false := beq_eq_false_iff_ne.mpr c6
    have c6b1 : (t115 != 0) = true := bne_iff_ne.mpr c6
    simp only [Option.some.injEq, Prod.mk.injEq] at H
    obtain ⟨rfl, rfl⟩ := H
    go_enter Try.func20, Try.ntmps20
    go_wp2_with (first | ((with_reducible refine gate_callee (f := 42) rfl ?_); refine goesL_ (some 9) rfl rfl Try.func42 (by kernel_rfl) rfl #[.int .i64 a0] rfl (by (try simp only [List.map_toArray, List.map_cons, List.map_nil]); first | done | rfl | (simp only [List.length_drop, List.length_take]; rfl)) ?_; (with_reducible refine (prod_size.calls a0 t113 _ A3.out).mono ?_); rintro e w' ⟨rfl, ⟨nd, rfl⟩⟩; refine ⟨_, rfl, ?_⟩) | ((with_reducible refine gate_callee (f := 42) rfl ?_); refine goesL_ (some 11) rfl rfl Try.func42 (by kernel_rfl) rfl #[.int .i64 a1] rfl (by (try simp only [List.map_toArray, List.map_cons, List.map_nil]); first | done | rfl | (simp only [List.length_drop, List.length_take]; rfl)) ?_; (with_reducible refine (prod_size.calls a1 t114 _ A4.out).mono ?_); rintro e w' ⟨rfl, ⟨nd, rfl⟩⟩; refine ⟨_, rfl, ?_⟩) | ((with_reducible refine gate_callee (f := 31) rfl ?_); refine goesL_ (some 12) rfl rfl Try.func31 (by kernel_rfl) rfl #[.int .u64 t113, .int .u64 t114] rfl (by (try simp only [List.map_toArray, List.map_cons, List.map_nil]); first | done | rfl | (simp only [List.length_drop, List.length_take]; rfl)) ?_; (with_reducible refine (prod_Mul.calls t113 t114 t115 t116 _ A5.out).mono ?_); rintro e w19 ⟨rfl, hb⟩; refine ⟨_, rfl, ?_⟩; have n0_ := Aside0.mk (below_step (by repeat (first | (with_reducible first | exact HB.out | apply below_alloc | apply pw_below_drewN | apply below_drew1) | exact HB.out)) hb); clear HB; have HB := n0_; clear n0_; (try clear hb); (try clear hb2); (try clear hk); (try clear hi)) | ((with_reducible refine gate_dst (N := 6) rfl ?_); refine box_event ?hg (N := 6) ?hd (cs := #[.int .u64 0, .int .u64 0]) (t := 38) ?hr ?_; (case hd => rfl); (case hg => rfl); (case hr => first | (go_simp; done) | (go_simp; rfl)); intro gb117 hg w20 hbox hb; have n0_ := Aside0.mk (below_step (by repeat (first | (with_reducible first | exact HB.out | apply below_alloc | apply pw_below_drewN | apply below_drew1) | exact HB.out)) hb); have n1_ := Aside0.mk (hbox); have n2_ := Aside0.mk ((by rw [hg]; exact (below_size (by repeat (first | (with_reducible first | exact HB.out | apply below_alloc | apply pw_below_drewN | apply below_drew1) | exact HB.out))) : w.heap.size ≤ gb117)); have n3_ := Aside0.mk ((by rw [hg]; exact (below_size (by repeat (first | (with_reducible first | exact HB.out | apply below_alloc | apply pw_below_drewN | apply below_drew1) | exact HB.out))) : w.heap.size ≤ gb117)); clear HB; have HB := n0_; have BK117 := n1_; have GW117 := n2_; have GE117 := n3_; clear n0_ n1_ n2_ n3_; clear hb hbox hg; have hcz21_0 : w20.cell? ⟨gb117, 0, none⟩ = some (.int .u64 0) := (blk_cell BK117.out 0).trans rfl; have hcz21_1 : w20.cell? ⟨gb117, 1, none⟩ = some (.int .u64 0) := (blk_cell BK117.out 1).trans rfl; have hfz21_0 := blk_frozen BK117.out 0; have hfz21_1 := blk_frozen BK117.out 1))
    all_goals (go_ret2; exact ⟨by first | rfl | (simp [errW_none, errW_some] <;> rfl) | (simp [*, errW_none, errW_some] <;> rfl) | (simp_all; done), by repeat (first | (with_reducible first | exact HB.out | apply below_alloc | apply pw_below_drewN | apply below_drew1 | refine below_set ?_ GE117.out) | exact HB.out)⟩)

end Go.Proofs.Ytglicbpnmehloaa.QProdBack
