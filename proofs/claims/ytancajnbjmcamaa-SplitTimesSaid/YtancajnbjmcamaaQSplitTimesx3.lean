-- Written by a program of this session (wip/tools/mkprint.py over the kit's print); Lean checks it.
import Derived.Test.YtancajnbjmcamaaQSplitTimesx0
namespace Go.Proofs.Ytancajnbjmcamaa.QSplitTimes
open Go.RowKit Go.Proofs.YtancajnbjmcamaaW.PrintWords Go.Proofs.YtancajnbjmcamaaW.PrintLast Go.Proofs.YtancajnbjmcamaaW.PrintMore
attribute [local go_sem] max2_int min2_int max_two min_two max_three min_three max_four min_four   -- for this text's walks alone
set_option linter.unusedVariables false
set_option linter.unusedSimpArgs false

/-! ### prod_Plus: function 48 -/
def prod_Plus.f (a0 : Int) (a1 : Int) : Option (Int × Int) := if ((decide (a0 < 0)) == (decide (a1 < 0))) = true then (if ((decide ((wrap64 (a0 + a1)) < 0)) != (decide (a0 < 0))) = true then (some (0, 6)) else (some (wrap64 (a0 + a1), 0))) else (some (wrap64 (a0 + a1), 0))
set_option maxHeartbeats 8000000 in
set_option maxRecDepth 100000 in
theorem prod_Plus.calls (a0 : Int) (a1 : Int) (r1 : Int) (r2 : Int) (w : World) (h : prod_Plus.f a0 a1 = some (r1, r2)) :
  Calls Try.prog 48 #[.int .i64 a0, .int .i64 a1] w fun e w' => e = .returned (.tuple #[.int .i64 r1, .int .i64 r2]) ∧ Drawn0 w w' := by
 have H : (if ((decide (a0 < 0)) == (decide (a1 < 0))) = true then (if ((decide ((wrap64 (a0 + a1)) < 0)) != (decide (a0 < 0))) = true then (some (0, 6)) else (some (wrap64 (a0 + a1), 0))) else (some (wrap64 (a0 + a1), 0))) = some (r1, r2) := h
 clear h
 by_cases c3 : ((decide (a0 < 0)) == (decide (a1 < 0))) = true
 ·rw [if_pos c3] at H
  have c3b0 : ((decide (a0 < 0)) == (decide (a1 < 0))) = true := c3; (try (have c3b1 : decide ((decide (a0 < 0)) = (decide (a1 < 0))) = true := by simpa using c3)); (try (have c3b2 : ((decide (a0 < 0)) == (decide (a1 < 0))) = true := by simpa using c3)); clear c3
  by_cases c4 : ((decide ((wrap64 (a0 + a1)) < 0)) != (decide (a0 < 0))) = true
  ·rw [if_pos c4] at H
   have c4b0 : ((decide ((wrap64 (a0 + a1)) < 0)) != (decide (a0 < 0))) = true := c4; (try (have c4b1 : decide ((decide ((wrap64 (a0 + a1)) < 0)) = (decide (a0 < 0))) = false := by simpa using c4)); (try (have c4b2 : ((decide ((wrap64 (a0 + a1)) < 0)) == (decide (a0 < 0))) = false := by simpa using c4)); (try (have c4b3 : ¬ ((decide ((wrap64 (a0 + a1)) < 0)) = (decide (a0 < 0))) := by simpa using c4)); clear c4; simp only [Option.some.injEq, Prod.mk.injEq] at H; obtain ⟨rfl, rfl⟩ := H; go_enter Try.func48, Try.ntmps48; go_wp2
   all_goals (go_ret2; exact ⟨eF, by repeat (first | exact Drawn0.refl _ | apply Drawn0.step)⟩)
  ·rw [if_neg c4] at H
   have c4b0 : ((decide ((wrap64 (a0 + a1)) < 0)) != (decide (a0 < 0))) = false := by simpa using c4
   (try (have c4b1 : decide ((decide ((wrap64 (a0 + a1)) < 0)) = (decide (a0 < 0))) = true := by simpa using c4)); (try (have c4b2 : ((decide ((wrap64 (a0 + a1)) < 0)) == (decide (a0 < 0))) = true := by simpa using c4)); clear c4; simp only [Option.some.injEq, Prod.mk.injEq] at H; obtain ⟨rfl, rfl⟩ := H; go_enter Try.func48, Try.ntmps48; go_wp2
   all_goals (go_ret2; exact ⟨eF, by repeat (first | exact Drawn0.refl _ | apply Drawn0.step)⟩)
 ·rw [if_neg c3] at H
  have c3b0 : ((decide (a0 < 0)) == (decide (a1 < 0))) = false := by simpa using c3
  (try (have c3b1 : decide ((decide (a0 < 0)) = (decide (a1 < 0))) = false := by simpa using c3)); (try (have c3b2 : ((decide (a0 < 0)) == (decide (a1 < 0))) = false := by simpa using c3)); (try (have c3b3 : ¬ ((decide (a0 < 0)) = (decide (a1 < 0))) := by simpa using c3)); clear c3; simp only [Option.some.injEq, Prod.mk.injEq] at H; obtain ⟨rfl, rfl⟩ := H; go_enter Try.func48, Try.ntmps48; go_wp2
  all_goals (go_ret2; exact ⟨eF, by repeat (first | exact Drawn0.refl _ | apply Drawn0.step)⟩)

/-! ### hist_plus: function 50 -/
def hist_plus.f (a0 : Int) (a1 : Int) (a2 : Bool) : Option (Int × Int) := (prod_Plus.f a0 a1).bind fun bt101 => (some (bt101.1, bt101.2))
set_option maxHeartbeats 8000000 in
set_option maxRecDepth 100000 in
theorem hist_plus.calls (a0 : Int) (a1 : Int) (a2 : Bool) (r1 : Int) (r2 : Int) (w : World) (h : hist_plus.f a0 a1 a2 = some (r1, r2)) :
  Calls Try.prog 50 #[.int .i64 a0, .int .i64 a1, .bool a2] w fun e w' => e = .returned (.tuple #[.int .i64 r1, .int .i64 r2]) ∧ Drawn0 w w' := by
 have H : ((prod_Plus.f a0 a1).bind fun bt101 => (some (bt101.1, bt101.2))) = some (r1, r2) := h
 clear h
 replace H := ooB.mp H
 obtain ⟨⟨t101, t102⟩, A40, H⟩ := H
 replace H : (some (t101, t102)) = some (r1, r2) := H
 have A4 := aaM A40
 clear A40
 simp only [Option.some.injEq, Prod.mk.injEq] at H
 obtain ⟨rfl, rfl⟩ := H
 go_enter Try.func50, Try.ntmps50
 go_wp2_with (first | ((with_reducible refine gate_callee (f := 48) rfl ?_); refine gL (some 10) Try.func48 #[.int .i64 a0, .int .i64 a1] ?_; (with_reducible refine (prod_Plus.calls a0 a1 t101 t102 _ A4.out).mono ?_); rintro e w' ⟨rfl, ⟨nd, rfl⟩⟩; refine ⟨_, rfl, ?_⟩))
 all_goals (go_ret2; exact ⟨eF, by repeat (first | exact Drawn0.refl _ | apply Drawn0.step)⟩)

/-! ### hist_moments_1: function 61 -/
section
variable {P : Program} {ops : Array Oper} {Q : Exit → Act → World → Prop}
/-- A call through a value that holds a closure. -/
theorem goesC_ {oi : Oper} {N : Option Tmp} {a : Act} {w : World} {K : Act → World → Prop} {f : FuncId} {fn : Func} {x : Operand} {as_ : Array Operand} {ts : Array TypeId} (hf : P.funcs[f]? = some fn) (hname : (fn.name == "runtime.NumGoroutine") = false) (hb : fn.body.isSome = true) (args cap all : Array Value) (hall : args ++ cap = all)
  (hw : Region.wanted oi (yielded ops a.tmps) = true) (hN : oi.dst = N) (hop : oi.op = .call { callee := .value x, args := as_, argTypes := ts }) (hx : a.eval x = .func (.func f) #[] cap) (hargs : as_.map a.eval = args)
  (h : Calls P f all w fun e w' => ∃ v, e = .returned v ∧ K (a.put N v) w') : if Region.wanted oi (yielded ops a.tmps) = true then Oper.wp P oi a w K Q else K (a.put N undef) w := by
 subst hall
 refine call_ f (args ++ cap) hw hN ?_ h
 have he := enters_ hf hname hb (args ++ cap) w
 unfold execOp
 simp [hop, resolve, hx, Deferred.ofValue, invoke, hargs, he]
theorem goesCL_ {rest : List Oper} {oi : Oper} {a : Act} {w : World} (N : Option Tmp) (hd : oi.dst = N) (hg : oi.guard = none) {f : FuncId} {fn : Func} {x : Operand} {as_ : Array Operand} {ts : Array TypeId} (hf : P.funcs[f]? = some fn) (hname : (fn.name == "runtime.NumGoroutine") = false) (hb : fn.body.isSome = true) (args cap all : Array Value) (hall : args ++ cap = all)
  (hop : oi.op = .call { callee := .value x, args := as_, argTypes := ts }) (hx : a.eval x = .func (.func f) #[] cap) (hargs : as_.map a.eval = args)
  (h : Calls P f all w fun e w' => ∃ v, e = .returned v ∧ wpList P ops Q rest (a.put N v) w') : wpList P ops Q (oi :: rest) a w := by
 subst hall
 refine wpList_plain hg fun K hK => ?_
 have he := enters_ hf hname hb (args ++ cap) w
 have hrun : (execOp a.eval oi).run P w = .ok (.enter f (args ++ cap)) w := by
  unfold execOp
  simp [hop, resolve, hx, Deferred.ofValue, invoke, hargs, he]
 unfold Oper.wp
 rw [hrun, Oper.upon_enter]
 refine h.mono fun e w'' hh => ?_
 obtain ⟨v, rfl, hk⟩ := hh
 subst hd
 exact hK _ _ hk
end
def hist_moments_1.f (a0_0 : Int) (a0_1 : Int) (a0_2 : Int) (a1_0 : Int) (a1_1 : Int) (a1_2 : Int) : Option (Int × Int × Int × Int) := (hist_plus.f a0_0 a1_0 false).bind fun bt107 => (if bt107.2 = 0 then ((hist_plus.f a0_1 a1_1 true).bind fun bt109 => (if bt109.2 = 0 then ((hist_plus.f a0_2 a1_2 false).bind fun bt111 => (if bt111.2 = 0 then (some (bt107.1, bt109.1, bt111.1, 0)) else (some (0, 0, 0, bt111.2)))) else (some (0, 0, 0, bt109.2)))) else (some (0, 0, 0, bt107.2)))
set_option maxHeartbeats 8000000 in
set_option maxRecDepth 100000 in
theorem hist_moments_1.calls (a0_0 : Int) (a0_1 : Int) (a0_2 : Int) (a1_0 : Int) (a1_1 : Int) (a1_2 : Int) (r1 : Int) (r2 : Int) (r3 : Int) (r4 : Int) (gc : Nat) (w : World) (hgc_ : w.cell? ⟨gc, 0, none⟩ = some (.func (.func 50) #[] #[])) (h : hist_moments_1.f a0_0 a0_1 a0_2 a1_0 a1_1 a1_2 = some (r1, r2, r3, r4)) :
  Calls Try.prog 61 #[.agg #[.int .i64 a0_0, .int .i64 a0_1, .int .i64 a0_2], .agg #[.int .i64 a1_0, .int .i64 a1_1, .int .i64 a1_2], .pointer (some ⟨gc, 0, none⟩)] w fun e w' => e = .returned (.tuple #[.agg #[.int .i64 r1, .int .i64 r2, .int .i64 r3], .int .i64 r4]) ∧ Below w.heap.size w w' := by
 have hu54 := Try.underlying54
 have HB := aaM (Below.refl w.heap.size w)
 have HGC := aaM hgc_
 clear hgc_
 have H : ((hist_plus.f a0_0 a1_0 false).bind fun bt107 => (if bt107.2 = 0 then ((hist_plus.f a0_1 a1_1 true).bind fun bt109 => (if bt109.2 = 0 then ((hist_plus.f a0_2 a1_2 false).bind fun bt111 => (if bt111.2 = 0 then (some (bt107.1, bt109.1, bt111.1, 0)) else (some (0, 0, 0, bt111.2)))) else (some (0, 0, 0, bt109.2)))) else (some (0, 0, 0, bt107.2)))) = some (r1, r2, r3, r4) := h
 clear h
 replace H := ooB.mp H
 obtain ⟨⟨t107, t108⟩, A30, H⟩ := H
 replace H : (if t108 = 0 then ((hist_plus.f a0_1 a1_1 true).bind fun bt109 => (if bt109.2 = 0 then ((hist_plus.f a0_2 a1_2 false).bind fun bt111 => (if bt111.2 = 0 then (some (t107, bt109.1, bt111.1, 0)) else (some (0, 0, 0, bt111.2)))) else (some (0, 0, 0, bt109.2)))) else (some (0, 0, 0, t108))) = some (r1, r2, r3, r4) := H
 have A3 := aaM A30
 clear A30
 by_cases c4 : t108 = 0
 ·rw [if_pos c4] at H
  have c4b0 : (t108 == 0) = true := beq_iff_eq.mpr c4; have c4b1 : (t108 != 0) = false := bne_eq_false_iff_eq.mpr c4; clear c4; replace H := ooB.mp H; obtain ⟨⟨t109, t110⟩, A50, H⟩ := H; replace H : (if t110 = 0 then ((hist_plus.f a0_2 a1_2 false).bind fun bt111 => (if bt111.2 = 0 then (some (t107, t109, bt111.1, 0)) else (some (0, 0, 0, bt111.2)))) else (some (0, 0, 0, t110))) = some (r1, r2, r3, r4) := H; have A5 := aaM A50; clear A50
  by_cases c6 : t110 = 0
  ·rw [if_pos c6] at H
   have c6b0 : (t110 == 0) = true := beq_iff_eq.mpr c6; have c6b1 : (t110 != 0) = false := bne_eq_false_iff_eq.mpr c6; clear c6; replace H := ooB.mp H; obtain ⟨⟨t111, t112⟩, A70, H⟩ := H; replace H : (if t112 = 0 then (some (t107, t109, t111, 0)) else (some (0, 0, 0, t112))) = some (r1, r2, r3, r4) := H; have A7 := aaM A70; clear A70
   by_cases c8 : t112 = 0
   ·rw [if_pos c8] at H
    have c8b0 : (t112 == 0) = true := beq_iff_eq.mpr c8; have c8b1 : (t112 != 0) = false := bne_eq_false_iff_eq.mpr c8; clear c8; simp only [Option.some.injEq, Prod.mk.injEq] at H; obtain ⟨rfl, rfl, rfl, rfl⟩ := H; go_enter Try.func61, Try.ntmps61
    go_wp2_with (first | ((with_reducible refine gate_dst (N := 3) rfl ?_); refine bxF w HB 3 #[.int .i64 a0_0, .int .i64 a0_1, .int .i64 a0_2] 54 ?_; intro gb103 hg w9 hb BK103 HB GE103; have GW103 := GE103; clear hb hg; have hgcc_gb103 : w9.cell? ⟨gc, 0, none⟩ = some (.func (.func 50) #[] #[]) := (HB.out.cell (World.block_lt_of_cell? w _ HGC.out)).trans HGC.out; have hgcn_gb103 : gc ≠ gb103 := Nat.ne_of_lt (Nat.lt_of_lt_of_le (World.block_lt_of_cell? w _ HGC.out) GE103.out); have hgcm_gb103 := hgcn_gb103.symm) | ((with_reducible refine gate_dst (N := 4) rfl ?_); refine bxF w HB 4 #[.int .i64 a1_0, .int .i64 a1_1, .int .i64 a1_2] 54 ?_; intro gb104 hg w10 hb BK104 HB GE104; have GW104 := GE104; obtain ⟨NB103_104, NB104_103⟩ := nS hg BK103; replace BK103 := bY hb BK103; clear hb hg; have hgcc_gb104 : w10.cell? ⟨gc, 0, none⟩ = some (.func (.func 50) #[] #[]) := (HB.out.cell (World.block_lt_of_cell? w _ HGC.out)).trans HGC.out; have hgcn_gb104 : gc ≠ gb104 := Nat.ne_of_lt (Nat.lt_of_lt_of_le (World.block_lt_of_cell? w _ HGC.out) GE104.out); have hgcm_gb104 := hgcn_gb104.symm) | ((with_reducible refine gate_dst (N := 5) rfl ?_); refine bxF w HB 5 #[.int .i64 0, .int .i64 0, .int .i64 0] 54 ?_; intro gb105 hg w11 hb BK105 HB GE105; have GW105 := GE105; obtain ⟨NB103_105, NB105_103⟩ := nS hg BK103; replace BK103 := bY hb BK103; obtain ⟨NB104_105, NB105_104⟩ := nS hg BK104; replace BK104 := bY hb BK104; clear hb hg; have hgcc_gb105 : w11.cell? ⟨gc, 0, none⟩ = some (.func (.func 50) #[] #[]) := (HB.out.cell (World.block_lt_of_cell? w _ HGC.out)).trans HGC.out; have hgcn_gb105 : gc ≠ gb105 := Nat.ne_of_lt (Nat.lt_of_lt_of_le (World.block_lt_of_cell? w _ HGC.out) GE105.out); have hgcm_gb105 := hgcn_gb105.symm) | ((with_reducible refine gate_dst (N := 7) rfl ?_); refine bxF w HB 7 #[.int .i64 0, .int .i64 0, .int .i64 0] 54 ?_; intro gb106 hg w12 hb BK106 HB GE106; have GW106 := GE106; obtain ⟨NB103_106, NB106_103⟩ := nS hg BK103; replace BK103 := bY hb BK103; obtain ⟨NB104_106, NB106_104⟩ := nS hg BK104; replace BK104 := bY hb BK104; obtain ⟨NB105_106, NB106_105⟩ := nS hg BK105; replace BK105 := bY hb BK105; clear hb hg; have hgcc_gb106 : w12.cell? ⟨gc, 0, none⟩ = some (.func (.func 50) #[] #[]) := (HB.out.cell (World.block_lt_of_cell? w _ HGC.out)).trans HGC.out; have hgcn_gb106 : gc ≠ gb106 := Nat.ne_of_lt (Nat.lt_of_lt_of_le (World.block_lt_of_cell? w _ HGC.out) GE106.out); have hgcm_gb106 := hgcn_gb106.symm; have := NB103_104.out; have := NB104_103.out; have := NB103_105.out; have := NB105_103.out; have := NB103_106.out; have := NB106_103.out; obtain ⟨_, _, _, _, _, _⟩ := bE3 BK103.out; have := NB104_105.out; have := NB105_104.out; have := NB104_106.out; have := NB106_104.out; obtain ⟨_, _, _, _, _, _⟩ := bE3 BK104.out) | ((with_reducible refine gate_dst (N := 15) rfl ?_); refine goesCL_ (some 15) rfl rfl Try.func50 (by kernel_rfl) rfl #[.int .i64 a0_0, .int .i64 a1_0, .bool false] #[] #[.int .i64 a0_0, .int .i64 a1_0, .bool false] rfl rfl rfl mG ?_; (with_reducible refine (hist_plus.calls a0_0 a1_0 false t107 t108 _ A3.out).mono ?_); rintro e w' ⟨rfl, ⟨nd, rfl⟩⟩; refine ⟨_, rfl, ?_⟩; (try (rw [drewN_self w12]; generalize hq_ : World.drewN w12 _ = w12; have n0_ : Aside0 (w12.heap[gb103]? = some (.cells #[.int .i64 a0_0, .int .i64 a0_1, .int .i64 a0_2] 54 (0, 0))) := ⟨by rw [← hq_]; exact (bZ BK103)⟩; have n1_ : Aside0 (w12.heap[gb104]? = some (.cells #[.int .i64 a1_0, .int .i64 a1_1, .int .i64 a1_2] 54 (0, 0))) := ⟨by rw [← hq_]; exact (bZ BK104)⟩; have n2_ : Aside0 (w12.heap[gb105]? = some (.cells #[.int .i64 0, .int .i64 0, .int .i64 0] 54 (0, 0))) := ⟨by rw [← hq_]; exact (bZ BK105)⟩; have n3_ : Aside0 (w12.heap[gb106]? = some (.cells #[.int .i64 0, .int .i64 0, .int .i64 0] 54 (0, 0))) := ⟨by rw [← hq_]; exact (bZ BK106)⟩; have n4_ : Aside0 (Below w.heap.size w w12) := ⟨by rw [← hq_]; exact (lB HB)⟩; clear BK103 BK104 BK105 BK106 HB hq_; have BK103 := n0_; have BK104 := n1_; have BK105 := n2_; have BK106 := n3_; have HB := n4_; clear n0_ n1_ n2_ n3_ n4_; obtain ⟨hcy103_0, hcy103_1, hcy103_2, hfy103_0, hfy103_1, hfy103_2⟩ := bE3 BK103.out; obtain ⟨hcy104_0, hcy104_1, hcy104_2, hfy104_0, hfy104_1, hfy104_2⟩ := bE3 BK104.out; obtain ⟨hcy105_0, hcy105_1, hcy105_2, hfy105_0, hfy105_1, hfy105_2⟩ := bE3 BK105.out; obtain ⟨hcy106_0, hcy106_1, hcy106_2, hfy106_0, hfy106_1, hfy106_2⟩ := bE3 BK106.out; have hgcd_ : w12.cell? ⟨gc, 0, none⟩ = some (.func (.func 50) #[] #[]) := (HB.out.cell (World.block_lt_of_cell? w _ HGC.out)).trans HGC.out)); have := NB106_105.out; have := NB105_106.out; obtain ⟨_, _, _, _, _, _⟩ := bE3 BK106.out) | ((with_reducible refine gate_dst (N := 29) rfl ?_); refine goesCL_ (some 29) rfl rfl Try.func50 (by kernel_rfl) rfl #[.int .i64 a0_1, .int .i64 a1_1, .bool true] #[] #[.int .i64 a0_1, .int .i64 a1_1, .bool true] rfl rfl rfl mG ?_; (with_reducible refine (hist_plus.calls a0_1 a1_1 true t109 t110 _ A5.out).mono ?_); rintro e w' ⟨rfl, ⟨nd, rfl⟩⟩; refine ⟨_, rfl, ?_⟩) | ((with_reducible refine gate_dst (N := 43) rfl ?_); refine goesCL_ (some 43) rfl rfl Try.func50 (by kernel_rfl) rfl #[.int .i64 a0_2, .int .i64 a1_2, .bool false] #[] #[.int .i64 a0_2, .int .i64 a1_2, .bool false] rfl rfl rfl mG ?_; (with_reducible refine (hist_plus.calls a0_2 a1_2 false t111 t112 _ A7.out).mono ?_); rintro e w' ⟨rfl, ⟨nd, rfl⟩⟩; refine ⟨_, rfl, ?_⟩; obtain ⟨_, _, _, _, _, _⟩ := bE3 BK105.out))
    refine bodyPost_ret (results_ct rfl _ _ gb105 54 #[.int .i64 t107, .int .i64 t109, .int .i64 t111] (0, 0) _ rfl (bZ BK105) Try.underlying54 rfl (by kernel_rfl)) rfl ?_
    exact ⟨eE, lB HB⟩
   ·rw [if_neg c8] at H
    have c8b0 : (t112 == 0) = false := beq_eq_false_iff_ne.mpr c8; have c8b1 : (t112 != 0) = true := bne_iff_ne.mpr c8; simp only [Option.some.injEq, Prod.mk.injEq] at H; obtain ⟨rfl, rfl, rfl, rfl⟩ := H; go_enter Try.func61, Try.ntmps61
    go_wp2_with (first | ((with_reducible refine gate_dst (N := 3) rfl ?_); refine bxF w HB 3 #[.int .i64 a0_0, .int .i64 a0_1, .int .i64 a0_2] 54 ?_; intro gb103 hg w23 hb BK103 HB GE103; have GW103 := GE103; clear hb hg; have hgcc_gb103 : w23.cell? ⟨gc, 0, none⟩ = some (.func (.func 50) #[] #[]) := (HB.out.cell (World.block_lt_of_cell? w _ HGC.out)).trans HGC.out; have hgcn_gb103 : gc ≠ gb103 := Nat.ne_of_lt (Nat.lt_of_lt_of_le (World.block_lt_of_cell? w _ HGC.out) GE103.out); have hgcm_gb103 := hgcn_gb103.symm) | ((with_reducible refine gate_dst (N := 4) rfl ?_); refine bxF w HB 4 #[.int .i64 a1_0, .int .i64 a1_1, .int .i64 a1_2] 54 ?_; intro gb104 hg w24 hb BK104 HB GE104; have GW104 := GE104; obtain ⟨NB103_104, NB104_103⟩ := nS hg BK103; replace BK103 := bY hb BK103; clear hb hg; have hgcc_gb104 : w24.cell? ⟨gc, 0, none⟩ = some (.func (.func 50) #[] #[]) := (HB.out.cell (World.block_lt_of_cell? w _ HGC.out)).trans HGC.out; have hgcn_gb104 : gc ≠ gb104 := Nat.ne_of_lt (Nat.lt_of_lt_of_le (World.block_lt_of_cell? w _ HGC.out) GE104.out); have hgcm_gb104 := hgcn_gb104.symm) | ((with_reducible refine gate_dst (N := 5) rfl ?_); refine bxF w HB 5 #[.int .i64 0, .int .i64 0, .int .i64 0] 54 ?_; intro gb105 hg w25 hb BK105 HB GE105; have GW105 := GE105; obtain ⟨NB103_105, NB105_103⟩ := nS hg BK103; replace BK103 := bY hb BK103; obtain ⟨NB104_105, NB105_104⟩ := nS hg BK104; replace BK104 := bY hb BK104; clear hb hg; have hgcc_gb105 : w25.cell? ⟨gc, 0, none⟩ = some (.func (.func 50) #[] #[]) := (HB.out.cell (World.block_lt_of_cell? w _ HGC.out)).trans HGC.out; have hgcn_gb105 : gc ≠ gb105 := Nat.ne_of_lt (Nat.lt_of_lt_of_le (World.block_lt_of_cell? w _ HGC.out) GE105.out); have hgcm_gb105 := hgcn_gb105.symm) | ((with_reducible refine gate_dst (N := 7) rfl ?_); refine bxF w HB 7 #[.int .i64 0, .int .i64 0, .int .i64 0] 54 ?_; intro gb106 hg w26 hb BK106 HB GE106; have GW106 := GE106; obtain ⟨NB103_106, NB106_103⟩ := nS hg BK103; replace BK103 := bY hb BK103; obtain ⟨NB104_106, NB106_104⟩ := nS hg BK104; replace BK104 := bY hb BK104; obtain ⟨NB105_106, NB106_105⟩ := nS hg BK105; replace BK105 := bY hb BK105; clear hb hg; have hgcc_gb106 : w26.cell? ⟨gc, 0, none⟩ = some (.func (.func 50) #[] #[]) := (HB.out.cell (World.block_lt_of_cell? w _ HGC.out)).trans HGC.out; have hgcn_gb106 : gc ≠ gb106 := Nat.ne_of_lt (Nat.lt_of_lt_of_le (World.block_lt_of_cell? w _ HGC.out) GE106.out); have hgcm_gb106 := hgcn_gb106.symm; have := NB103_104.out; have := NB104_103.out; have := NB103_105.out; have := NB105_103.out; have := NB103_106.out; have := NB106_103.out; obtain ⟨_, _, _, _, _, _⟩ := bE3 BK103.out; have := NB104_105.out; have := NB105_104.out; have := NB104_106.out; have := NB106_104.out; obtain ⟨_, _, _, _, _, _⟩ := bE3 BK104.out) | ((with_reducible refine gate_dst (N := 15) rfl ?_); refine goesCL_ (some 15) rfl rfl Try.func50 (by kernel_rfl) rfl #[.int .i64 a0_0, .int .i64 a1_0, .bool false] #[] #[.int .i64 a0_0, .int .i64 a1_0, .bool false] rfl rfl rfl mG ?_; (with_reducible refine (hist_plus.calls a0_0 a1_0 false t107 t108 _ A3.out).mono ?_); rintro e w' ⟨rfl, ⟨nd, rfl⟩⟩; refine ⟨_, rfl, ?_⟩; (try (rw [drewN_self w26]; generalize hq_ : World.drewN w26 _ = w26; have n0_ : Aside0 (w26.heap[gb103]? = some (.cells #[.int .i64 a0_0, .int .i64 a0_1, .int .i64 a0_2] 54 (0, 0))) := ⟨by rw [← hq_]; exact (bZ BK103)⟩; have n1_ : Aside0 (w26.heap[gb104]? = some (.cells #[.int .i64 a1_0, .int .i64 a1_1, .int .i64 a1_2] 54 (0, 0))) := ⟨by rw [← hq_]; exact (bZ BK104)⟩; have n2_ : Aside0 (w26.heap[gb105]? = some (.cells #[.int .i64 0, .int .i64 0, .int .i64 0] 54 (0, 0))) := ⟨by rw [← hq_]; exact (bZ BK105)⟩; have n3_ : Aside0 (w26.heap[gb106]? = some (.cells #[.int .i64 0, .int .i64 0, .int .i64 0] 54 (0, 0))) := ⟨by rw [← hq_]; exact (bZ BK106)⟩; have n4_ : Aside0 (Below w.heap.size w w26) := ⟨by rw [← hq_]; exact (lB HB)⟩; clear BK103 BK104 BK105 BK106 HB hq_; have BK103 := n0_; have BK104 := n1_; have BK105 := n2_; have BK106 := n3_; have HB := n4_; clear n0_ n1_ n2_ n3_ n4_; obtain ⟨hcy103_0, hcy103_1, hcy103_2, hfy103_0, hfy103_1, hfy103_2⟩ := bE3 BK103.out; obtain ⟨hcy104_0, hcy104_1, hcy104_2, hfy104_0, hfy104_1, hfy104_2⟩ := bE3 BK104.out; obtain ⟨hcy105_0, hcy105_1, hcy105_2, hfy105_0, hfy105_1, hfy105_2⟩ := bE3 BK105.out; obtain ⟨hcy106_0, hcy106_1, hcy106_2, hfy106_0, hfy106_1, hfy106_2⟩ := bE3 BK106.out; have hgcd_ : w26.cell? ⟨gc, 0, none⟩ = some (.func (.func 50) #[] #[]) := (HB.out.cell (World.block_lt_of_cell? w _ HGC.out)).trans HGC.out)); have := NB106_105.out; have := NB105_106.out; obtain ⟨_, _, _, _, _, _⟩ := bE3 BK106.out) | ((with_reducible refine gate_dst (N := 29) rfl ?_); refine goesCL_ (some 29) rfl rfl Try.func50 (by kernel_rfl) rfl #[.int .i64 a0_1, .int .i64 a1_1, .bool true] #[] #[.int .i64 a0_1, .int .i64 a1_1, .bool true] rfl rfl rfl mG ?_; (with_reducible refine (hist_plus.calls a0_1 a1_1 true t109 t110 _ A5.out).mono ?_); rintro e w' ⟨rfl, ⟨nd, rfl⟩⟩; refine ⟨_, rfl, ?_⟩) | ((with_reducible refine gate_dst (N := 43) rfl ?_); refine goesCL_ (some 43) rfl rfl Try.func50 (by kernel_rfl) rfl #[.int .i64 a0_2, .int .i64 a1_2, .bool false] #[] #[.int .i64 a0_2, .int .i64 a1_2, .bool false] rfl rfl rfl mG ?_; (with_reducible refine (hist_plus.calls a0_2 a1_2 false t111 t112 _ A7.out).mono ?_); rintro e w' ⟨rfl, ⟨nd, rfl⟩⟩; refine ⟨_, rfl, ?_⟩; obtain ⟨_, _, _, _, _, _⟩ := bE3 BK105.out))
    refine bodyPost_ret (results_ct rfl _ _ gb105 54 #[.int .i64 0, .int .i64 0, .int .i64 0] (0, 0) _ rfl (bZ BK105) Try.underlying54 rfl (by kernel_rfl)) rfl ?_
    exact ⟨eE, lB HB⟩
  ·rw [if_neg c6] at H
   have c6b0 : (t110 == 0) = false := beq_eq_false_iff_ne.mpr c6; have c6b1 : (t110 != 0) = true := bne_iff_ne.mpr c6; simp only [Option.some.injEq, Prod.mk.injEq] at H; obtain ⟨rfl, rfl, rfl, rfl⟩ := H; go_enter Try.func61, Try.ntmps61
   go_wp2_with (first | ((with_reducible refine gate_dst (N := 3) rfl ?_); refine bxF w HB 3 #[.int .i64 a0_0, .int .i64 a0_1, .int .i64 a0_2] 54 ?_; intro gb103 hg w37 hb BK103 HB GE103; have GW103 := GE103; clear hb hg; have hgcc_gb103 : w37.cell? ⟨gc, 0, none⟩ = some (.func (.func 50) #[] #[]) := (HB.out.cell (World.block_lt_of_cell? w _ HGC.out)).trans HGC.out; have hgcn_gb103 : gc ≠ gb103 := Nat.ne_of_lt (Nat.lt_of_lt_of_le (World.block_lt_of_cell? w _ HGC.out) GE103.out); have hgcm_gb103 := hgcn_gb103.symm) | ((with_reducible refine gate_dst (N := 4) rfl ?_); refine bxF w HB 4 #[.int .i64 a1_0, .int .i64 a1_1, .int .i64 a1_2] 54 ?_; intro gb104 hg w38 hb BK104 HB GE104; have GW104 := GE104; obtain ⟨NB103_104, NB104_103⟩ := nS hg BK103; replace BK103 := bY hb BK103; clear hb hg; have hgcc_gb104 : w38.cell? ⟨gc, 0, none⟩ = some (.func (.func 50) #[] #[]) := (HB.out.cell (World.block_lt_of_cell? w _ HGC.out)).trans HGC.out; have hgcn_gb104 : gc ≠ gb104 := Nat.ne_of_lt (Nat.lt_of_lt_of_le (World.block_lt_of_cell? w _ HGC.out) GE104.out); have hgcm_gb104 := hgcn_gb104.symm) | ((with_reducible refine gate_dst (N := 5) rfl ?_); refine bxF w HB 5 #[.int .i64 0, .int .i64 0, .int .i64 0] 54 ?_; intro gb105 hg w39 hb BK105 HB GE105; have GW105 := GE105; obtain ⟨NB103_105, NB105_103⟩ := nS hg BK103; replace BK103 := bY hb BK103; obtain ⟨NB104_105, NB105_104⟩ := nS hg BK104; replace BK104 := bY hb BK104; clear hb hg; have hgcc_gb105 : w39.cell? ⟨gc, 0, none⟩ = some (.func (.func 50) #[] #[]) := (HB.out.cell (World.block_lt_of_cell? w _ HGC.out)).trans HGC.out; have hgcn_gb105 : gc ≠ gb105 := Nat.ne_of_lt (Nat.lt_of_lt_of_le (World.block_lt_of_cell? w _ HGC.out) GE105.out); have hgcm_gb105 := hgcn_gb105.symm) | ((with_reducible refine gate_dst (N := 7) rfl ?_); refine bxF w HB 7 #[.int .i64 0, .int .i64 0, .int .i64 0] 54 ?_; intro gb106 hg w40 hb BK106 HB GE106; have GW106 := GE106; obtain ⟨NB103_106, NB106_103⟩ := nS hg BK103; replace BK103 := bY hb BK103; obtain ⟨NB104_106, NB106_104⟩ := nS hg BK104; replace BK104 := bY hb BK104; obtain ⟨NB105_106, NB106_105⟩ := nS hg BK105; replace BK105 := bY hb BK105; clear hb hg; have hgcc_gb106 : w40.cell? ⟨gc, 0, none⟩ = some (.func (.func 50) #[] #[]) := (HB.out.cell (World.block_lt_of_cell? w _ HGC.out)).trans HGC.out; have hgcn_gb106 : gc ≠ gb106 := Nat.ne_of_lt (Nat.lt_of_lt_of_le (World.block_lt_of_cell? w _ HGC.out) GE106.out); have hgcm_gb106 := hgcn_gb106.symm; have := NB103_104.out; have := NB104_103.out; have := NB103_105.out; have := NB105_103.out; have := NB103_106.out; have := NB106_103.out; obtain ⟨_, _, _, _, _, _⟩ := bE3 BK103.out; have := NB104_105.out; have := NB105_104.out; have := NB104_106.out; have := NB106_104.out; obtain ⟨_, _, _, _, _, _⟩ := bE3 BK104.out) | ((with_reducible refine gate_dst (N := 15) rfl ?_); refine goesCL_ (some 15) rfl rfl Try.func50 (by kernel_rfl) rfl #[.int .i64 a0_0, .int .i64 a1_0, .bool false] #[] #[.int .i64 a0_0, .int .i64 a1_0, .bool false] rfl rfl rfl mG ?_; (with_reducible refine (hist_plus.calls a0_0 a1_0 false t107 t108 _ A3.out).mono ?_); rintro e w' ⟨rfl, ⟨nd, rfl⟩⟩; refine ⟨_, rfl, ?_⟩; (try (rw [drewN_self w40]; generalize hq_ : World.drewN w40 _ = w40; have n0_ : Aside0 (w40.heap[gb103]? = some (.cells #[.int .i64 a0_0, .int .i64 a0_1, .int .i64 a0_2] 54 (0, 0))) := ⟨by rw [← hq_]; exact (bZ BK103)⟩; have n1_ : Aside0 (w40.heap[gb104]? = some (.cells #[.int .i64 a1_0, .int .i64 a1_1, .int .i64 a1_2] 54 (0, 0))) := ⟨by rw [← hq_]; exact (bZ BK104)⟩; have n2_ : Aside0 (w40.heap[gb105]? = some (.cells #[.int .i64 0, .int .i64 0, .int .i64 0] 54 (0, 0))) := ⟨by rw [← hq_]; exact (bZ BK105)⟩; have n3_ : Aside0 (w40.heap[gb106]? = some (.cells #[.int .i64 0, .int .i64 0, .int .i64 0] 54 (0, 0))) := ⟨by rw [← hq_]; exact (bZ BK106)⟩; have n4_ : Aside0 (Below w.heap.size w w40) := ⟨by rw [← hq_]; exact (lB HB)⟩; clear BK103 BK104 BK105 BK106 HB hq_; have BK103 := n0_; have BK104 := n1_; have BK105 := n2_; have BK106 := n3_; have HB := n4_; clear n0_ n1_ n2_ n3_ n4_; obtain ⟨hcy103_0, hcy103_1, hcy103_2, hfy103_0, hfy103_1, hfy103_2⟩ := bE3 BK103.out; obtain ⟨hcy104_0, hcy104_1, hcy104_2, hfy104_0, hfy104_1, hfy104_2⟩ := bE3 BK104.out; obtain ⟨hcy105_0, hcy105_1, hcy105_2, hfy105_0, hfy105_1, hfy105_2⟩ := bE3 BK105.out; obtain ⟨hcy106_0, hcy106_1, hcy106_2, hfy106_0, hfy106_1, hfy106_2⟩ := bE3 BK106.out; have hgcd_ : w40.cell? ⟨gc, 0, none⟩ = some (.func (.func 50) #[] #[]) := (HB.out.cell (World.block_lt_of_cell? w _ HGC.out)).trans HGC.out)); have := NB106_105.out; have := NB105_106.out; obtain ⟨_, _, _, _, _, _⟩ := bE3 BK106.out) | ((with_reducible refine gate_dst (N := 29) rfl ?_); refine goesCL_ (some 29) rfl rfl Try.func50 (by kernel_rfl) rfl #[.int .i64 a0_1, .int .i64 a1_1, .bool true] #[] #[.int .i64 a0_1, .int .i64 a1_1, .bool true] rfl rfl rfl mG ?_; (with_reducible refine (hist_plus.calls a0_1 a1_1 true t109 t110 _ A5.out).mono ?_); rintro e w' ⟨rfl, ⟨nd, rfl⟩⟩; refine ⟨_, rfl, ?_⟩; obtain ⟨_, _, _, _, _, _⟩ := bE3 BK105.out))
   refine bodyPost_ret (results_ct rfl _ _ gb105 54 #[.int .i64 0, .int .i64 0, .int .i64 0] (0, 0) _ rfl (bZ BK105) Try.underlying54 rfl (by kernel_rfl)) rfl ?_
   exact ⟨eE, lB HB⟩
 ·rw [if_neg c4] at H
  have c4b0 : (t108 == 0) = false := beq_eq_false_iff_ne.mpr c4; have c4b1 : (t108 != 0) = true := bne_iff_ne.mpr c4; simp only [Option.some.injEq, Prod.mk.injEq] at H; obtain ⟨rfl, rfl, rfl, rfl⟩ := H; go_enter Try.func61, Try.ntmps61
  go_wp2_with (first | ((with_reducible refine gate_dst (N := 3) rfl ?_); refine bxF w HB 3 #[.int .i64 a0_0, .int .i64 a0_1, .int .i64 a0_2] 54 ?_; intro gb103 hg w51 hb BK103 HB GE103; have GW103 := GE103; clear hb hg; have hgcc_gb103 : w51.cell? ⟨gc, 0, none⟩ = some (.func (.func 50) #[] #[]) := (HB.out.cell (World.block_lt_of_cell? w _ HGC.out)).trans HGC.out; have hgcn_gb103 : gc ≠ gb103 := Nat.ne_of_lt (Nat.lt_of_lt_of_le (World.block_lt_of_cell? w _ HGC.out) GE103.out); have hgcm_gb103 := hgcn_gb103.symm) | ((with_reducible refine gate_dst (N := 4) rfl ?_); refine bxF w HB 4 #[.int .i64 a1_0, .int .i64 a1_1, .int .i64 a1_2] 54 ?_; intro gb104 hg w52 hb BK104 HB GE104; have GW104 := GE104; obtain ⟨NB103_104, NB104_103⟩ := nS hg BK103; replace BK103 := bY hb BK103; clear hb hg; have hgcc_gb104 : w52.cell? ⟨gc, 0, none⟩ = some (.func (.func 50) #[] #[]) := (HB.out.cell (World.block_lt_of_cell? w _ HGC.out)).trans HGC.out; have hgcn_gb104 : gc ≠ gb104 := Nat.ne_of_lt (Nat.lt_of_lt_of_le (World.block_lt_of_cell? w _ HGC.out) GE104.out); have hgcm_gb104 := hgcn_gb104.symm) | ((with_reducible refine gate_dst (N := 5) rfl ?_); refine bxF w HB 5 #[.int .i64 0, .int .i64 0, .int .i64 0] 54 ?_; intro gb105 hg w53 hb BK105 HB GE105; have GW105 := GE105; obtain ⟨NB103_105, NB105_103⟩ := nS hg BK103; replace BK103 := bY hb BK103; obtain ⟨NB104_105, NB105_104⟩ := nS hg BK104; replace BK104 := bY hb BK104; clear hb hg; have hgcc_gb105 : w53.cell? ⟨gc, 0, none⟩ = some (.func (.func 50) #[] #[]) := (HB.out.cell (World.block_lt_of_cell? w _ HGC.out)).trans HGC.out; have hgcn_gb105 : gc ≠ gb105 := Nat.ne_of_lt (Nat.lt_of_lt_of_le (World.block_lt_of_cell? w _ HGC.out) GE105.out); have hgcm_gb105 := hgcn_gb105.symm) | ((with_reducible refine gate_dst (N := 7) rfl ?_); refine bxF w HB 7 #[.int .i64 0, .int .i64 0, .int .i64 0] 54 ?_; intro gb106 hg w54 hb BK106 HB GE106; have GW106 := GE106; obtain ⟨NB103_106, NB106_103⟩ := nS hg BK103; replace BK103 := bY hb BK103; obtain ⟨NB104_106, NB106_104⟩ := nS hg BK104; replace BK104 := bY hb BK104; obtain ⟨NB105_106, NB106_105⟩ := nS hg BK105; replace BK105 := bY hb BK105; clear hb hg; have hgcc_gb106 : w54.cell? ⟨gc, 0, none⟩ = some (.func (.func 50) #[] #[]) := (HB.out.cell (World.block_lt_of_cell? w _ HGC.out)).trans HGC.out; have hgcn_gb106 : gc ≠ gb106 := Nat.ne_of_lt (Nat.lt_of_lt_of_le (World.block_lt_of_cell? w _ HGC.out) GE106.out); have hgcm_gb106 := hgcn_gb106.symm; have := NB103_104.out; have := NB104_103.out; have := NB103_105.out; have := NB105_103.out; have := NB103_106.out; have := NB106_103.out; obtain ⟨_, _, _, _, _, _⟩ := bE3 BK103.out; have := NB104_105.out; have := NB105_104.out; have := NB104_106.out; have := NB106_104.out; obtain ⟨_, _, _, _, _, _⟩ := bE3 BK104.out) | ((with_reducible refine gate_dst (N := 15) rfl ?_); refine goesCL_ (some 15) rfl rfl Try.func50 (by kernel_rfl) rfl #[.int .i64 a0_0, .int .i64 a1_0, .bool false] #[] #[.int .i64 a0_0, .int .i64 a1_0, .bool false] rfl rfl rfl mG ?_; (with_reducible refine (hist_plus.calls a0_0 a1_0 false t107 t108 _ A3.out).mono ?_); rintro e w' ⟨rfl, ⟨nd, rfl⟩⟩; refine ⟨_, rfl, ?_⟩; (try (rw [drewN_self w54]; generalize hq_ : World.drewN w54 _ = w54; have n0_ : Aside0 (w54.heap[gb103]? = some (.cells #[.int .i64 a0_0, .int .i64 a0_1, .int .i64 a0_2] 54 (0, 0))) := ⟨by rw [← hq_]; exact (bZ BK103)⟩; have n1_ : Aside0 (w54.heap[gb104]? = some (.cells #[.int .i64 a1_0, .int .i64 a1_1, .int .i64 a1_2] 54 (0, 0))) := ⟨by rw [← hq_]; exact (bZ BK104)⟩; have n2_ : Aside0 (w54.heap[gb105]? = some (.cells #[.int .i64 0, .int .i64 0, .int .i64 0] 54 (0, 0))) := ⟨by rw [← hq_]; exact (bZ BK105)⟩; have n3_ : Aside0 (w54.heap[gb106]? = some (.cells #[.int .i64 0, .int .i64 0, .int .i64 0] 54 (0, 0))) := ⟨by rw [← hq_]; exact (bZ BK106)⟩; have n4_ : Aside0 (Below w.heap.size w w54) := ⟨by rw [← hq_]; exact (lB HB)⟩; clear BK103 BK104 BK105 BK106 HB hq_; have BK103 := n0_; have BK104 := n1_; have BK105 := n2_; have BK106 := n3_; have HB := n4_; clear n0_ n1_ n2_ n3_ n4_; obtain ⟨hcy103_0, hcy103_1, hcy103_2, hfy103_0, hfy103_1, hfy103_2⟩ := bE3 BK103.out; obtain ⟨hcy104_0, hcy104_1, hcy104_2, hfy104_0, hfy104_1, hfy104_2⟩ := bE3 BK104.out; obtain ⟨hcy105_0, hcy105_1, hcy105_2, hfy105_0, hfy105_1, hfy105_2⟩ := bE3 BK105.out; obtain ⟨hcy106_0, hcy106_1, hcy106_2, hfy106_0, hfy106_1, hfy106_2⟩ := bE3 BK106.out; have hgcd_ : w54.cell? ⟨gc, 0, none⟩ = some (.func (.func 50) #[] #[]) := (HB.out.cell (World.block_lt_of_cell? w _ HGC.out)).trans HGC.out)); have := NB106_105.out; have := NB105_106.out; obtain ⟨_, _, _, _, _, _⟩ := bE3 BK106.out; obtain ⟨_, _, _, _, _, _⟩ := bE3 BK105.out))
  refine bodyPost_ret (results_ct rfl _ _ gb105 54 #[.int .i64 0, .int .i64 0, .int .i64 0] (0, 0) _ rfl (bZ BK105) Try.underlying54 rfl (by kernel_rfl)) rfl ?_
  exact ⟨eE, lB HB⟩

/-! ### gini_May: function 83 -/
mutual
def gini_May.j0 : Nat → List Int → Bool → Option (Bool)
 | 0, _, _ => none
 | k + 1, x0, x13 => if x13 = true then (some false) else (gini_May.l0 k 0 x0 (x0.length : Int) 0)
def gini_May.l0 : Nat → Int → List Int → Int → Int → Option (Bool)
 | 0, _, _, _, _ => none
 | k + 1, x3, x14, x15, x16 => if x16 < x15 then (if 0 ≤ x16 then (if x16 < (x14.length : Int) then (if (rd x14 x16) < 0 then (some false) else (if (rd x14 x16) > 1048576 then (some false) else (gini_May.l0 k (wrap64 (x3 + (rd x14 x16))) x14 x15 (wrap64 (x16 + 1))))) else (none)) else (none)) else (some (decide (x3 ≤ 1048576)))
end
def gini_May.f (k : Nat) (l0 : List Int) : Option (Bool) := if (l0.length : Int) < 2 then (gini_May.j0 k l0 true) else (gini_May.j0 k l0 (decide ((l0.length : Int) > 256)))
theorem gini_May.mono_l : ∀ k, (∀ y0 y1, LeO (gini_May.j0 k y0 y1) (gini_May.j0 (k + 1) y0 y1)) ∧ (∀ y0 y1 y2 y3, LeO (gini_May.l0 k y0 y1 y2 y3) (gini_May.l0 (k + 1) y0 y1 y2 y3))
 | 0 => ⟨fun _ _ r h => by simp [gini_May.j0] at h, fun _ _ _ _ r h => by simp [gini_May.l0] at h⟩
 | k + 1 => by
  obtain ⟨ih0, ih1⟩ := gini_May.mono_l k
  refine ⟨?_, ?_⟩
  all_goals (intros; first | unfold gini_May.j0 | unfold gini_May.l0)
  all_goals repeat' first
   | (with_reducible exact ih0 _ _)
   | (with_reducible exact ih1 _ _ _ _)
   | (with_reducible exact LeO.refl _)
   | (with_reducible exact LeO.none _)
   | (with_reducible refine LeO.ite ?_ ?_)
   | (with_reducible refine LeO.bind ?_ (fun _ => ?_))
   | exact ih0 _ _
   | exact ih1 _ _ _ _
   | exact LeO.none _
   | refine LeO.ite ?_ ?_
   | refine LeO.bind ?_ (fun _ => ?_)
theorem gini_May.mono : ∀ a0 k, LeO (gini_May.f k a0) (gini_May.f (k + 1) a0) := by
 intro a0 k
 obtain ⟨ih0, ih1⟩ := gini_May.mono_l k
 unfold gini_May.f
 repeat' first
   | (with_reducible exact ih0 _ _)
   | (with_reducible exact ih1 _ _ _ _)
   | (with_reducible exact LeO.refl _)
   | (with_reducible exact LeO.none _)
   | (with_reducible refine LeO.ite ?_ ?_)
   | (with_reducible refine LeO.bind ?_ (fun _ => ?_))
   | exact ih0 _ _
   | exact ih1 _ _ _ _
   | exact LeO.none _
   | refine LeO.ite ?_ ?_
   | refine LeO.bind ?_ (fun _ => ?_)
set_option maxHeartbeats 8000000 in
set_option maxRecDepth 100000 in
theorem gini_May.calls (k : Nat) (A0 : Option Addr) (c0 : Nat) (l0 : List Int) (r : Bool) (w : World) (hr0 : Kd.C (Kd.int .i64) w A0 l0.length l0) (hc0 : l0.length ≤ c0) (h : gini_May.f k l0 = some r) :
  Calls Try.prog 83 #[.slice A0 l0.length c0] w fun e w' => e = .returned (.bool r) ∧ Drawn0 w w' := by
 have HR0 := aaM hr0
 have HC0 := aaM hc0
 clear hr0 hc0
 have H : (if (l0.length : Int) < 2 then (gini_May.j0 k l0 true) else (gini_May.j0 k l0 (decide ((l0.length : Int) > 256)))) = some r := h
 clear h
 have HC2 := aaM H
 clear H
 go_enter Try.func83, Try.ntmps83
 go_upto_region 1 with (fail)
 go_cut [13] (fun v13 wc => ∃ (kq : Nat) (x13_1 : Bool), v13 = .bool x13_1 ∧ Aside0 (gini_May.j0 kq l0 x13_1 = some r) ∧ Aside0 (kq ≤ k) ∧ Drawn0 w wc)
 case first =>
  have H := HC2.out; clear HC2
  by_cases c3 : (l0.length : Int) < 2
  ·rw [if_pos c3] at H
   have c3b0 : decide ((l0.length : Int) < 2) = true := decide_eq_true c3; have c3b1 : decide (l0.length < 2) = true := decide_eq_true (by omega); clear c3; (first | rw [c3b0] | (simp only [i64_w, i32_w]; rw [c3b0]) | skip); have H' := aaM H; clear H; go_wp2
   go_meet
   case rel => exact ⟨_, (true), (eF), H', ⟨by first | omega | exact Nat.le_refl _⟩, by repeat (first | exact Drawn0.refl _ | apply Drawn0.step)⟩
  ·rw [if_neg c3] at H
   have c3b0 : decide ((l0.length : Int) < 2) = false := decide_eq_false c3; have c3b1 : decide (l0.length < 2) = false := decide_eq_false (by omega); clear c3; (first | rw [c3b0] | (simp only [i64_w, i32_w]; rw [c3b0]) | skip); have H' := aaM H; clear H; go_wp2
   go_meet
   case rel => exact ⟨_, (decide ((l0.length : Int) > 256)), (eF), H', ⟨by first | omega | exact Nat.le_refl _⟩, by repeat (first | exact Drawn0.refl _ | apply Drawn0.step)⟩
 case rest =>
  clear HC2; (try clear p2); (try clear c3); (try clear c3b0); (try clear c3b1); obtain ⟨kq, x13_1, rfl, HA, HJ1, ⟨mc1, rfl⟩⟩ := hcut
  cases kq with
  | zero => exact absurd HA.out (by simp [gini_May.j0])
  | succ kj1 =>
   have H := HA.out; clear HA; simp only [gini_May.j0] at H
   by_cases c4 : x13_1 = true
   ·subst c4
    have H1 : (some false) = some r := by rw [if_pos rfl] at H; exact H
    clear H; have H := H1; clear H1; obtain rfl := Option.some.inj H; go_wp2
    all_goals (go_ret; exact ⟨eF, by repeat (first | exact Drawn0.refl _ | apply Drawn0.step)⟩)
   ·replace c4 := Bool.eq_false_iff.mpr c4
    subst c4
    have H1 : (gini_May.l0 kj1 0 l0 (l0.length : Int) 0) = some r := by rw [if_neg (show ¬ (false = true) by decide)] at H; exact H
    clear H; have H := H1; clear H1; have H' := aaM H; clear H; go_wp2
    go_loopg [3, 16] kj1 (fun kq v3 v16 w' => ∃ (x3_2 : Int) (x16_2 : Int), v3 = .int .i64 x3_2 ∧ v16 = .int .i64 x16_2 ∧ Aside0 (gini_May.l0 kq x3_2 l0 (l0.length : Int) x16_2 = some r) ∧ Aside0 (kq ≤ kj1) ∧ Drawn0 w w')
    case atStart => exact ⟨(0), (0), (eF), (eF), H', ⟨Nat.le_refl _⟩, by repeat (first | exact Drawn0.refl _ | apply Drawn0.step)⟩
    case round =>
     clear H'; (try clear c1); (try clear p2); (try clear c3); (try clear c3b0); (try clear c3b1); (try clear c4); (try clear p2); obtain ⟨x3_2, x16_2, rfl, rfl, HA, HK2, ⟨m2, rfl⟩⟩ := hrel
     cases gk with
     | zero => exact absurd HA.out (by simp [gini_May.l0])
     | succ k2 =>
      have H := HA.out; clear HA; simp only [gini_May.l0] at H
      by_cases c5 : x16_2 < (l0.length : Int)
      ·rw [if_pos c5] at H
       have c5b0 : decide (x16_2 < (l0.length : Int)) = true := decide_eq_true c5; clear c5
       by_cases c6 : 0 ≤ x16_2
       ·rw [if_pos c6] at H
        have c6b0 : decide (0 ≤ x16_2) = true := decide_eq_true c6; clear c6
        by_cases c7 : x16_2 < (l0.length : Int)
        ·rw [if_pos c7] at H
         have c7b0 : decide (x16_2 < (l0.length : Int)) = true := decide_eq_true c7; clear c7
         by_cases c8 : (rd l0 x16_2) < 0
         ·rw [if_pos c8] at H
          have c8b0 : decide ((rd l0 x16_2) < 0) = true := decide_eq_true c8; clear c8; obtain rfl := Option.some.inj H; have p113 : 0 ≤ (x16_2 : Int) := of_decide_eq_true (by first | (with_reducible assumption) | assumption); have q113 : x16_2 < (l0.length : Int) := of_decide_eq_true (by first | (with_reducible assumption) | assumption); obtain ⟨ad113, e113, hx113_0⟩ := Kd.at_int HR0.out x16_2 p113 q113
          cases e113
          replace p113 := eq_true p113; replace q113 := eq_true q113; go_wp2
          all_goals (go_ret; exact ⟨eF, by repeat (first | exact Drawn0.refl _ | apply Drawn0.step)⟩)
         ·rw [if_neg c8] at H
          have c8b0 : decide ((rd l0 x16_2) < 0) = false := decide_eq_false c8; clear c8
          by_cases c9 : (rd l0 x16_2) > 1048576
          ·rw [if_pos c9] at H
           have c9b0 : decide (1048576 < (rd l0 x16_2)) = true := decide_eq_true c9; clear c9; obtain rfl := Option.some.inj H; have p113 : 0 ≤ (x16_2 : Int) := of_decide_eq_true (by first | (with_reducible assumption) | assumption); have q113 : x16_2 < (l0.length : Int) := of_decide_eq_true (by first | (with_reducible assumption) | assumption); obtain ⟨ad113, e113, hx113_0⟩ := Kd.at_int HR0.out x16_2 p113 q113
           cases e113
           replace p113 := eq_true p113; replace q113 := eq_true q113; go_wp2
           all_goals (go_ret; exact ⟨eF, by repeat (first | exact Drawn0.refl _ | apply Drawn0.step)⟩)
          ·rw [if_neg c9] at H
           have c9b0 : decide (1048576 < (rd l0 x16_2)) = false := decide_eq_false c9; clear c9; have H' := aaM H; clear H; have p113 : 0 ≤ (x16_2 : Int) := of_decide_eq_true (by first | (with_reducible assumption) | assumption); have q113 : x16_2 < (l0.length : Int) := of_decide_eq_true (by first | (with_reducible assumption) | assumption); obtain ⟨ad113, e113, hx113_0⟩ := Kd.at_int HR0.out x16_2 p113 q113
           cases e113
           replace p113 := eq_true p113; replace q113 := eq_true q113; go_wp2
           go_roundg k2
           case measure => have := HJ1.out; have := HK2.out; omega
           case rel => exact ⟨(wrap64 (x3_2 + (rd l0 x16_2))), (wrap64 (x16_2 + 1)), (eF), (eF), H', ⟨by have := HJ1.out; have := HK2.out; omega⟩, by repeat (first | exact Drawn0.refl _ | apply Drawn0.step)⟩
        ·rw [if_neg c7] at H
         exact absurd H (by simp)
       ·rw [if_neg c6] at H
        exact absurd H (by simp)
      ·rw [if_neg c5] at H
       have c5b0 : decide (x16_2 < (l0.length : Int)) = false := decide_eq_false c5; clear c5; obtain rfl := Option.some.inj H; go_wp2
       all_goals (go_ret; exact ⟨eF, by repeat (first | exact Drawn0.refl _ | apply Drawn0.step)⟩)

-- NOT PRINTED: function 88 (gini_sum)

/-! ### gini_total: function 84 -/
def gini_total.g (x : Int) : Int := x
def gini_total.s (l : List Int) : Int := l.foldl (fun acc x => IntKind.u64.wrap (acc + gini_total.g (IntKind.u64.wrap x))) 0
def gini_total.f (l : List Int) : Option Int := if l.length ≤ 9223372036854775807 then some (gini_total.s l) else none
theorem gini_total.s_snoc (l : List Int) (k : Nat) (h : k < l.length) : gini_total.s (l.take (k + 1)) = IntKind.u64.wrap (gini_total.s (l.take k) + gini_total.g (IntKind.u64.wrap (rd l (k : Int)))) := by
 unfold gini_total.s
 rw [List.take_succ_eq_append_getElem h, List.foldl_append]
 simp [rd, List.getD, h]
set_option maxHeartbeats 8000000 in
set_option maxRecDepth 100000 in
theorem gini_total.calls (A0 : Option Addr) (c0 : Nat) (l0 : List Int) (r : Int) (w : World) (hr0 : Kd.C (Kd.int .i64) w A0 l0.length l0) (hc0 : l0.length ≤ c0) (h : gini_total.f l0 = some r) :
  Calls Try.prog 84 #[.slice A0 l0.length c0] w fun e w' => e = .returned (.int .u64 r) ∧ Drawn0 w w' := by
 have HR0 := aaM hr0
 have HC0 := aaM hc0
 have hl_ : l0.length ≤ 9223372036854775807 ∧ gini_total.s l0 = r := by
  unfold gini_total.f at h; split at h
  ·exact ⟨by assumption, Option.some.inj h⟩
  ·cases h
 obtain ⟨hlen, rfl⟩ := hl_
 have HLEN := aaM hlen
 clear hr0 hc0 hlen h
 go_enter Try.func84, Try.ntmps84
 go_wp2
 go_loopw [5, 10] (fun v5 v10 w' => ∃ x5 x10 : Int, v5 = .int .u64 x5 ∧ v10 = .int .i64 x10 ∧ Aside0 (0 ≤ x10 ∧ x10 ≤ (l0.length : Int) ∧ x5 = gini_total.s (l0.take x10.toNat)) ∧ Drawn0 w w') (fun _ v10 _ => l0.length - (intOf v10).toNat)
 case atStart => exact ⟨0, 0, rfl, rfl, ⟨by omega, by omega, rfl⟩, Drawn0.refl _⟩
 case round =>
  obtain ⟨x5, x10, rfl, rfl, HK, ⟨m1, rfl⟩⟩ := hrel
  by_cases hlt : x10 < (l0.length : Int)
  ·have HN : Aside0 (IntKind.u64.wrap (x5 + gini_total.g (IntKind.u64.wrap (rd l0 x10))) = gini_total.s (l0.take (x10 + 1).toNat)) := ⟨by
    obtain ⟨h0, h1, h2⟩ := HK.out; obtain ⟨k, rfl⟩ := Int.eq_ofNat_of_zero_le h0; rw [show ((k : Int) + 1).toNat = k + 1 by omega, gini_total.s_snoc l0 k (by omega), h2]; rfl⟩
   have hltb : decide (x10 < (l0.length : Int)) = true := decide_eq_true hlt; have h0b : decide (0 ≤ x10) = true := decide_eq_true HK.out.1; have HM : Aside0 (wrap64 (x10 + 1) = x10 + 1) := ⟨by have := HLEN.out; have := HK.out; unfold wrap64; omega⟩; have HLT := aaM hlt; obtain ⟨ad, e, hx⟩ := Kd.at_int HR0.out x10 HK.out.1 hlt
   cases e
   have p1 := eq_true HK.out.1; have q1 := eq_true hlt; clear hlt; go_wp2
   go_roundw
   case rel => exact ⟨_, _, rfl, rfl, ⟨by rw [HM.out]; have := HK.out; omega, by rw [HM.out]; have := HLT.out; omega, by rw [HM.out]; exact HN.out⟩, by repeat (first | exact Drawn0.refl _ | apply Drawn0.step)⟩
   case measure => have := HK.out; have := HLT.out; have := HM.out; simp only [intOf]; first | omega | (simp [intOf]; omega)
  ·have HE := aaM (show x10 = (l0.length : Int) by have := HK.out; omega)
   have HX : Aside0 (x5 = gini_total.s l0) := ⟨by have := HK.out.2.2; rw [HE.out, Int.toNat_natCast, List.take_length] at this; exact this⟩; have hltb : decide (x10 < (l0.length : Int)) = false := decide_eq_false hlt; clear hlt; go_wp2; go_ret
   exact ⟨by rw [← HX.out]; rfl, by repeat (first | exact Drawn0.refl _ | apply Drawn0.step)⟩


/-! ### gini_squares: function 85 -/
def gini_squares.g (x : Int) : Int := IntKind.u64.wrap (x * x)
def gini_squares.s (l : List Int) : Int := l.foldl (fun acc x => IntKind.u64.wrap (acc + gini_squares.g (IntKind.u64.wrap x))) 0
def gini_squares.f (l : List Int) : Option Int := if l.length ≤ 9223372036854775807 then some (gini_squares.s l) else none
theorem gini_squares.s_snoc (l : List Int) (k : Nat) (h : k < l.length) : gini_squares.s (l.take (k + 1)) = IntKind.u64.wrap (gini_squares.s (l.take k) + gini_squares.g (IntKind.u64.wrap (rd l (k : Int)))) := by
 unfold gini_squares.s
 rw [List.take_succ_eq_append_getElem h, List.foldl_append]
 simp [rd, List.getD, h]
set_option maxHeartbeats 8000000 in
set_option maxRecDepth 100000 in
theorem gini_squares.calls (A0 : Option Addr) (c0 : Nat) (l0 : List Int) (r : Int) (w : World) (hr0 : Kd.C (Kd.int .i64) w A0 l0.length l0) (hc0 : l0.length ≤ c0) (h : gini_squares.f l0 = some r) :
  Calls Try.prog 85 #[.slice A0 l0.length c0] w fun e w' => e = .returned (.int .u64 r) ∧ Drawn0 w w' := by
 have HR0 := aaM hr0
 have HC0 := aaM hc0
 have hl_ : l0.length ≤ 9223372036854775807 ∧ gini_squares.s l0 = r := by
  unfold gini_squares.f at h; split at h
  ·exact ⟨by assumption, Option.some.inj h⟩
  ·cases h
 obtain ⟨hlen, rfl⟩ := hl_
 have HLEN := aaM hlen
 clear hr0 hc0 hlen h
 go_enter Try.func85, Try.ntmps85
 go_wp2
 go_loopw [5, 10] (fun v5 v10 w' => ∃ x5 x10 : Int, v5 = .int .u64 x5 ∧ v10 = .int .i64 x10 ∧ Aside0 (0 ≤ x10 ∧ x10 ≤ (l0.length : Int) ∧ x5 = gini_squares.s (l0.take x10.toNat)) ∧ Drawn0 w w') (fun _ v10 _ => l0.length - (intOf v10).toNat)
 case atStart => exact ⟨0, 0, rfl, rfl, ⟨by omega, by omega, rfl⟩, Drawn0.refl _⟩
 case round =>
  obtain ⟨x5, x10, rfl, rfl, HK, ⟨m1, rfl⟩⟩ := hrel
  by_cases hlt : x10 < (l0.length : Int)
  ·have HN : Aside0 (IntKind.u64.wrap (x5 + gini_squares.g (IntKind.u64.wrap (rd l0 x10))) = gini_squares.s (l0.take (x10 + 1).toNat)) := ⟨by
    obtain ⟨h0, h1, h2⟩ := HK.out; obtain ⟨k, rfl⟩ := Int.eq_ofNat_of_zero_le h0; rw [show ((k : Int) + 1).toNat = k + 1 by omega, gini_squares.s_snoc l0 k (by omega), h2]; rfl⟩
   have hltb : decide (x10 < (l0.length : Int)) = true := decide_eq_true hlt; have h0b : decide (0 ≤ x10) = true := decide_eq_true HK.out.1; have HM : Aside0 (wrap64 (x10 + 1) = x10 + 1) := ⟨by have := HLEN.out; have := HK.out; unfold wrap64; omega⟩; have HLT := aaM hlt; obtain ⟨ad, e, hx⟩ := Kd.at_int HR0.out x10 HK.out.1 hlt
   cases e
   have p1 := eq_true HK.out.1; have q1 := eq_true hlt; clear hlt; go_wp2
   go_roundw
   case rel => exact ⟨_, _, rfl, rfl, ⟨by rw [HM.out]; have := HK.out; omega, by rw [HM.out]; have := HLT.out; omega, by rw [HM.out]; exact HN.out⟩, by repeat (first | exact Drawn0.refl _ | apply Drawn0.step)⟩
   case measure => have := HK.out; have := HLT.out; have := HM.out; simp only [intOf]; first | omega | (simp [intOf]; omega)
  ·have HE := aaM (show x10 = (l0.length : Int) by have := HK.out; omega)
   have HX : Aside0 (x5 = gini_squares.s l0) := ⟨by have := HK.out.2.2; rw [HE.out, Int.toNat_natCast, List.take_length] at this; exact this⟩; have hltb : decide (x10 < (l0.length : Int)) = false := decide_eq_false hlt; clear hlt; go_wp2; go_ret
   exact ⟨by rw [← HX.out]; rfl, by repeat (first | exact Drawn0.refl _ | apply Drawn0.step)⟩


/-! ### gini_Alone: function 81 -/
def gini_Alone.j0 : Nat → List Int → Bool → Option (Int × Int × Int)
 | 0, _, _ => none
 | k + 1, x0, x10 => if x10 = true then (some (0, 0, 0)) else ((gini_squares.f x0).bind fun t117 => ((gini_total.f x0).bind fun t118 => (some (0, t117, t118))))
def gini_Alone.f (k : Nat) (l0 : List Int) : Option (Int × Int × Int) := (gini_May.f k l0).bind fun t115 => (if t115 = true then ((gini_total.f l0).bind fun t116 => (gini_Alone.j0 k l0 (t116 == 0))) else (gini_Alone.j0 k l0 true))
theorem gini_Alone.mono_l : ∀ k, (∀ y0 y1, LeO (gini_Alone.j0 k y0 y1) (gini_Alone.j0 (k + 1) y0 y1))
 | 0 => fun _ _ r h => by simp [gini_Alone.j0] at h
 | k + 1 => by
  have ih0 := gini_Alone.mono_l k
  ·intro y0 y1
   unfold gini_Alone.j0
   repeat' first
   | (with_reducible exact ih0 _ _)
   | (with_reducible exact gini_May.mono _ _)
   | (with_reducible exact LeO.refl _)
   | (with_reducible exact LeO.none _)
   | (with_reducible refine LeO.ite ?_ ?_)
   | (with_reducible refine LeO.bind ?_ (fun _ => ?_))
   | exact ih0 _ _
   | exact gini_May.mono _ _
   | exact LeO.none _
   | refine LeO.ite ?_ ?_
   | refine LeO.bind ?_ (fun _ => ?_)
theorem gini_Alone.mono : ∀ a0 k, LeO (gini_Alone.f k a0) (gini_Alone.f (k + 1) a0) := by
 intro a0 k
 have ih0 := gini_Alone.mono_l k
 unfold gini_Alone.f
 repeat' first
   | (with_reducible exact ih0 _ _)
   | (with_reducible exact gini_May.mono _ _)
   | (with_reducible exact LeO.refl _)
   | (with_reducible exact LeO.none _)
   | (with_reducible refine LeO.ite ?_ ?_)
   | (with_reducible refine LeO.bind ?_ (fun _ => ?_))
   | exact ih0 _ _
   | exact gini_May.mono _ _
   | exact LeO.none _
   | refine LeO.ite ?_ ?_
   | refine LeO.bind ?_ (fun _ => ?_)
set_option maxHeartbeats 8000000 in
set_option maxRecDepth 100000 in
theorem gini_Alone.calls (k : Nat) (A0 : Option Addr) (c0 : Nat) (l0 : List Int) (r1 : Int) (r2 : Int) (r3 : Int) (w : World) (hr0 : Kd.C (Kd.int .i64) w A0 l0.length l0) (hc0 : l0.length ≤ c0) (h : gini_Alone.f k l0 = some (r1, r2, r3)) :
  Calls Try.prog 81 #[.slice A0 l0.length c0] w fun e w' => e = .returned (.agg #[.int .u64 r1, .int .u64 r2, .int .u64 r3]) ∧ Below w.heap.size w w' := by
 have hu32 := Try.underlying32
 have hu30 := Try.underlying30
 have HR0 := aaM hr0
 have HC0 := aaM hc0
 clear hr0 hc0
 have HB := aaM (Below.refl w.heap.size w)
 have H : ((gini_May.f k l0).bind fun t115 => (if t115 = true then ((gini_total.f l0).bind fun t116 => (gini_Alone.j0 k l0 (t116 == 0))) else (gini_Alone.j0 k l0 true))) = some (r1, r2, r3) := h
 clear h
 have HC2 := aaM H
 clear H
 go_enter Try.func81, Try.ntmps81
 go_upto_region 1 with (first | ((with_reducible refine gate_dst (N := 2) rfl ?_); refine bxF w HB 2 #[.int .u64 0, .int .u64 0, .int .u64 0] 32 ?_; intro gb114 hg w3 hb BK114 HB GE114; have GW114 := GE114; clear hb hg))
 (try simp only [Act.put, ssB, ssZ, ssS])
 go_cut [10] (fun v10 wc => ∃ (kq : Nat) (x10_1 : Bool), v10 = .bool x10_1 ∧ Aside0 (gini_Alone.j0 kq l0 x10_1 = some (r1, r2, r3)) ∧ Aside0 (kq ≤ k) ∧ Aside0 (wc.heap[gb114]? = some (.cells #[.int .u64 0, .int .u64 0, .int .u64 0] 32 (0, 0))) ∧ Aside0 (Below w.heap.size w wc))
 case first =>
  have H := HC2.out; clear HC2; replace H := ooB.mp H; obtain ⟨t115, A40, H⟩ := H; replace H : (if t115 = true then ((gini_total.f l0).bind fun t116 => (gini_Alone.j0 k l0 (t116 == 0))) else (gini_Alone.j0 k l0 true)) = some (r1, r2, r3) := H; have A4 := aaM A40; clear A40
  by_cases c5 : t115 = true
  ·subst c5
   have H1 : ((gini_total.f l0).bind fun t116 => (gini_Alone.j0 k l0 (t116 == 0))) = some (r1, r2, r3) := by rw [if_pos rfl] at H; exact H
   clear H; have H := H1; clear H1; replace H := ooB.mp H; obtain ⟨t116, A60, H⟩ := H; replace H : (gini_Alone.j0 k l0 (t116 == 0)) = some (r1, r2, r3) := H; have A6 := aaM A60; clear A60; have H' := aaM H; clear H
   go_wp2_with (first | ((with_reducible refine gate_callee (f := 83) rfl ?_); refine gL (some 4) Try.func83 #[.slice A0 l0.length c0] ?_; (with_reducible refine (gini_May.calls k _ _ l0 true _ ?side1 ?side2 A4.out).mono ?_); (case side1 => exact cZ (ccB HR0.out HB.out)); (case side2 => exact HC0.out); rintro e w' ⟨rfl, ⟨nd, rfl⟩⟩; refine ⟨_, rfl, ?_⟩) | (go_at_call 84; (with_reducible refine (gini_total.calls _ _ l0 t116 _ ?side1 ?side2 A6.out).mono ?_); (case side1 => exact cZ (ccB HR0.out (lB HB))); (case side2 => exact HC0.out); rintro e w' ⟨rfl, ⟨nd, rfl⟩⟩))
   go_meet
   case rel => exact ⟨_, ((t116 == 0)), (eF), H', ⟨by first | omega | exact Nat.le_refl _⟩, ⟨bZ BK114⟩, ⟨lB HB⟩⟩
  ·replace c5 := Bool.eq_false_iff.mpr c5
   subst c5
   have H1 : (gini_Alone.j0 k l0 true) = some (r1, r2, r3) := by rw [if_neg (show ¬ (false = true) by decide)] at H; exact H
   clear H; have H := H1; clear H1; have H' := aaM H; clear H
   go_wp2_with (first | ((with_reducible refine gate_callee (f := 83) rfl ?_); refine gL (some 4) Try.func83 #[.slice A0 l0.length c0] ?_; (with_reducible refine (gini_May.calls k _ _ l0 false _ ?side1 ?side2 A4.out).mono ?_); (case side1 => exact cZ (ccB HR0.out HB.out)); (case side2 => exact HC0.out); rintro e w' ⟨rfl, ⟨nd, rfl⟩⟩; refine ⟨_, rfl, ?_⟩))
   go_meet
   case rel => exact ⟨_, (true), (eF), H', ⟨by first | omega | exact Nat.le_refl _⟩, ⟨bZ BK114⟩, ⟨lB HB⟩⟩
 case rest =>
  clear HC2; (try clear p2); (try clear c5); obtain ⟨kq, x10_1, rfl, HA, HJ1, BK114, HB⟩ := hcut
  cases kq with
  | zero => exact absurd HA.out (by simp [gini_Alone.j0])
  | succ kj1 =>
   have H := HA.out; clear HA; simp only [gini_Alone.j0] at H
   by_cases c7 : x10_1 = true
   ·subst c7
    have H1 : (some (0, 0, 0)) = some (r1, r2, r3) := by rw [if_pos rfl] at H; exact H
    clear H; have H := H1; clear H1; simp only [Option.some.injEq, Prod.mk.injEq] at H; obtain ⟨rfl, rfl, rfl⟩ := H; obtain ⟨_, _, _, _, _, _⟩ := bE3 BK114.out; go_wp2; refine bodyPost_ret (results_cell_row rfl _ _ gb114 32 #[.int .u64 0, .int .u64 0, .int .u64 0] (0, 0) _ rfl (bZ BK114) Try.underlying32 rfl (by kernel_rfl)) rfl ?_
    exact ⟨eE, lB HB⟩
   ·replace c7 := Bool.eq_false_iff.mpr c7
    subst c7
    have H1 : ((gini_squares.f l0).bind fun t117 => ((gini_total.f l0).bind fun t118 => (some (0, t117, t118)))) = some (r1, r2, r3) := by rw [if_neg (show ¬ (false = true) by decide)] at H; exact H
    clear H; have H := H1; clear H1; replace H := ooB.mp H; obtain ⟨t117, A90, H⟩ := H; replace H : ((gini_total.f l0).bind fun t118 => (some (0, t117, t118))) = some (r1, r2, r3) := H; have A9 := aaM A90; clear A90; replace H := ooB.mp H; obtain ⟨t118, A100, H⟩ := H; replace H : (some (0, t117, t118)) = some (r1, r2, r3) := H; have A10 := aaM A100; clear A100; simp only [Option.some.injEq, Prod.mk.injEq] at H; obtain ⟨rfl, rfl, rfl⟩ := H
    go_wp2_with (first | ((with_reducible refine gate_callee (f := 85) rfl ?_); refine gL (some 13) Try.func85 #[.slice A0 l0.length c0] ?_; (with_reducible refine (gini_squares.calls _ _ l0 t117 _ ?side1 ?side2 A9.out).mono ?_); (case side1 => exact cZ (ccB HR0.out HB.out)); (case side2 => exact HC0.out); rintro e w' ⟨rfl, ⟨nd, rfl⟩⟩; refine ⟨_, rfl, ?_⟩; (try (rw [drewN_self wc]; generalize hq_ : World.drewN wc _ = wc; have n0_ : Aside0 (wc.heap[gb114]? = some (.cells #[.int .u64 0, .int .u64 0, .int .u64 0] 32 (0, 0))) := ⟨by rw [← hq_]; exact (bZ BK114)⟩; have n1_ : Aside0 (Below w.heap.size w wc) := ⟨by rw [← hq_]; exact (lB HB)⟩; clear BK114 HB hq_; have BK114 := n0_; have HB := n1_; clear n0_ n1_))) | ((with_reducible refine gate_callee (f := 84) rfl ?_); refine gL (some 16) Try.func84 #[.slice A0 l0.length c0] ?_; (with_reducible refine (gini_total.calls _ _ l0 t118 _ ?side1 ?side2 A10.out).mono ?_); (case side1 => exact cZ (ccB HR0.out HB.out)); (case side2 => exact HC0.out); rintro e w' ⟨rfl, ⟨nd, rfl⟩⟩; refine ⟨_, rfl, ?_⟩; (try (rw [drewN_self wc]; generalize hq_ : World.drewN wc _ = wc; have n0_ : Aside0 (wc.heap[gb114]? = some (.cells #[.int .u64 0, .int .u64 0, .int .u64 0] 32 (0, 0))) := ⟨by rw [← hq_]; exact (bZ BK114)⟩; have n1_ : Aside0 (Below w.heap.size w wc) := ⟨by rw [← hq_]; exact (lB HB)⟩; clear BK114 HB hq_; have BK114 := n0_; have HB := n1_; clear n0_ n1_)); obtain ⟨_, _, _, _, _, _⟩ := bE3 BK114.out))
    refine bodyPost_ret (results_cell_row rfl _ _ gb114 32 #[.int .u64 0, .int .u64 t117, .int .u64 t118] (0, 0) _ rfl (bZ BK114) Try.underlying32 rfl (by kernel_rfl)) rfl ?_
    exact ⟨eE, lB HB⟩

/-! ### split_classes_alone: function 78 -/
def split_classes_alone.f (k : Nat) (l0_0 : List Int) : Option (Int × Int × Int) := (gini_Alone.f k l0_0).bind fun bt121 => (some (bt121.1, bt121.2.1, bt121.2.2))
theorem split_classes_alone.mono : ∀ a0 k, LeO (split_classes_alone.f k a0) (split_classes_alone.f (k + 1) a0) := by
 intro a0 k
 unfold split_classes_alone.f
 repeat' first
   | (with_reducible exact gini_Alone.mono _ _)
   | (with_reducible exact LeO.refl _)
   | (with_reducible exact LeO.none _)
   | (with_reducible refine LeO.ite ?_ ?_)
   | (with_reducible refine LeO.bind ?_ (fun _ => ?_))
   | exact gini_Alone.mono _ _
   | exact LeO.none _
   | refine LeO.ite ?_ ?_
   | refine LeO.bind ?_ (fun _ => ?_)
set_option maxHeartbeats 8000000 in
set_option maxRecDepth 100000 in
theorem split_classes_alone.calls (k : Nat) (A0_0 : Option Addr) (c0_0 : Nat) (l0_0 : List Int) (r1 : Int) (r2 : Int) (r3 : Int) (w : World) (hr0_0 : Kd.C (Kd.int .i64) w A0_0 l0_0.length l0_0) (hc0_0 : l0_0.length ≤ c0_0) (h : split_classes_alone.f k l0_0 = some (r1, r2, r3)) :
  Calls Try.prog 78 #[.agg #[.slice A0_0 l0_0.length c0_0]] w fun e w' => e = .returned (.agg #[.int .u64 r1, .int .u64 r2, .int .u64 r3]) ∧ Below w.heap.size w w' := by
 have hu81 := Try.underlying81
 have hu32 := Try.underlying32
 have HR0_0 := aaM hr0_0
 have HC0_0 := aaM hc0_0
 clear hr0_0 hc0_0
 have HB := aaM (Below.refl w.heap.size w)
 have H : ((gini_Alone.f k l0_0).bind fun bt121 => (some (bt121.1, bt121.2.1, bt121.2.2))) = some (r1, r2, r3) := h
 clear h
 replace H := ooB.mp H
 obtain ⟨⟨t121, t122, t123⟩, A20, H⟩ := H
 replace H : (some (t121, t122, t123)) = some (r1, r2, r3) := H
 have A2 := aaM A20
 clear A20
 simp only [Option.some.injEq, Prod.mk.injEq] at H
 obtain ⟨rfl, rfl, rfl⟩ := H
 go_enter Try.func78, Try.ntmps78
 go_wp2_with (first | ((with_reducible refine gate_dst (N := 1) rfl ?_); refine bxF w HB 1 #[.slice A0_0 l0_0.length c0_0] 81 ?_; intro gb119 hg w3 hb BK119 HB GE119; have GW119 := GE119; clear hb hg) | ((with_reducible refine gate_dst (N := 2) rfl ?_); refine bxF w HB 2 #[.int .u64 0, .int .u64 0, .int .u64 0] 32 ?_; intro gb120 hg w4 hb BK120 HB GE120; have GW120 := GE120; obtain ⟨NB119_120, NB120_119⟩ := nS hg BK119; replace BK119 := bY hb BK119; clear hb hg; have := NB119_120.out; have := NB120_119.out; obtain ⟨_, _⟩ := bE1 BK119.out) | ((with_reducible refine gate_callee (f := 81) rfl ?_); refine gL (some 5) Try.func81 #[.slice A0_0 l0_0.length c0_0] ?_; (with_reducible refine (gini_Alone.calls k _ _ l0_0 t121 t122 t123 _ ?side1 ?side2 A2.out).mono ?_); (case side1 => exact cZ (ccB HR0_0.out HB.out)); (case side2 => exact HC0_0.out); rintro e w7 ⟨rfl, hb⟩; refine ⟨_, rfl, ?_⟩; replace BK119 := bY hb BK119; replace BK120 := bY hb BK120; replace HB := aaM (lP (lB HB) hb); (try clear hb); (try clear hb2); (try clear hk); (try clear hi); obtain ⟨_, _, _, _, _, _⟩ := bE3 BK120.out))
 refine bodyPost_ret (results_cell_row rfl _ _ gb120 32 #[.int .u64 t121, .int .u64 t122, .int .u64 t123] (0, 0) _ rfl (bZ BK120) Try.underlying32 rfl (by kernel_rfl)) rfl ?_
 exact ⟨eE, lB HB⟩

/-! ### bits_Add64: function 54 -/

section
variable {P : Program} {ops : Array Oper} {Q : Exit → Act → World → Prop}
/-- A call of a function without a body: the model's entry tells its value at once. -/
def XCalls (P : Program) (f : FuncId) (args : Array Value) (w : World) (post : Ending → World → Prop) : Prop :=
 ∃ v, (callFunc f args).run P w = .ok (.value v) w ∧ post (.returned v) w
theorem XCalls.mono {f : FuncId} {args : Array Value} {w : World} {p q : Ending → World → Prop} (h : XCalls P f args w p) (hpq : ∀ e w', p e w' → q e w') : XCalls P f args w q := by
 obtain ⟨v, hr, hp⟩ := h
 exact ⟨v, hr, hpq _ _ hp⟩
theorem goesX_ {rest : List Oper} {oi : Oper} {a : Act} {w : World} (N : Option Tmp) (hd : oi.dst = N) (hg : oi.guard = none) {f : FuncId} {os_ : Array Operand} {ts : Array TypeId} (args : Array Value)
  (hop : oi.op = .call { callee := .value (.func f), args := os_, argTypes := ts }) (hargs : os_.map a.eval = args)
  (h : XCalls P f args w fun e w' => ∃ v, e = .returned v ∧ wpList P ops Q rest (a.put N v) w') : wpList P ops Q (oi :: rest) a w := by
 refine wpList_plain hg fun K hK => ?_
 obtain ⟨v, hr, v', he, hk⟩ := h
 obtain rfl := Ending.returned.inj he
 have hrun : (execOp a.eval oi).run P w = .ok (.value v) w := by
  unfold execOp
  simp [hop, resolve, Deferred.ofValue, invoke, Act.eval, hargs, hr]
 unfold Oper.wp
 rw [hrun, Oper.upon_value]
 subst hd
 exact hK _ _ hk
end
def bits_Add64.f (a0 : Int) (a1 : Int) (a2 : Int) : Option (Int × Int) := if 0 ≤ a0 ∧ 0 ≤ a1 ∧ 0 ≤ a2 ∧ a2 ≤ 1 then some ((a0 + a1 + a2) % 18446744073709551616, (a0 + a1 + a2) / 18446744073709551616) else none
theorem bits_Add64.calls (a0 : Int) (a1 : Int) (a2 : Int) (r1 : Int) (r2 : Int) (w : World) (h : bits_Add64.f a0 a1 a2 = some (r1, r2)) :
  XCalls Try.prog 54 #[.int .u64 a0, .int .u64 a1, .int .u64 a2] w fun e w' => e = .returned (.tuple #[.int .u64 r1, .int .u64 r2]) ∧ Drawn0 w w' := by
 unfold bits_Add64.f at h
 split at h
 ·rename_i hc
  simp only [Option.some.injEq, Prod.mk.injEq] at h; obtain ⟨rfl, rfl⟩ := h; refine ⟨_, ?_, rfl, Drawn0.refl _⟩; rw [run_callFunc_extern Try.func54 (by kernel_rfl) (by kernel_rfl) (by kernel_rfl) (e := add64Entry) (by kernel_rfl), run_add64 a0 a1 a2 hc.1 hc.2.1 hc.2.2.1 hc.2.2.2]; rfl
 ·cases h


/-! ### prod_Add: function 86 -/
def prod_Add.f (a0_0 : Int) (a0_1 : Int) (a1_0 : Int) (a1_1 : Int) : Option (Int × Int × Int) := (bits_Add64.f a0_1 a1_1 0).bind fun bt127 => ((bits_Add64.f a0_0 a1_0 bt127.2).bind fun bt129 => (if bt129.2 = 0 then (some (bt129.1, bt127.1, 0)) else (some (0, 0, 6))))
set_option maxHeartbeats 8000000 in
set_option maxRecDepth 100000 in
theorem prod_Add.calls (a0_0 : Int) (a0_1 : Int) (a1_0 : Int) (a1_1 : Int) (r1 : Int) (r2 : Int) (r3 : Int) (w : World) (h : prod_Add.f a0_0 a0_1 a1_0 a1_1 = some (r1, r2, r3)) :
  Calls Try.prog 86 #[.agg #[.int .u64 a0_0, .int .u64 a0_1], .agg #[.int .u64 a1_0, .int .u64 a1_1]] w fun e w' => e = .returned (.tuple #[.agg #[.int .u64 r1, .int .u64 r2], .int .i64 r3]) ∧ Below w.heap.size w w' := by
 have hu30 := Try.underlying30
 have HB := aaM (Below.refl w.heap.size w)
 have H : ((bits_Add64.f a0_1 a1_1 0).bind fun bt127 => ((bits_Add64.f a0_0 a1_0 bt127.2).bind fun bt129 => (if bt129.2 = 0 then (some (bt129.1, bt127.1, 0)) else (some (0, 0, 6))))) = some (r1, r2, r3) := h
 clear h
 replace H := ooB.mp H
 obtain ⟨⟨t127, t128⟩, A30, H⟩ := H
 replace H : ((bits_Add64.f a0_0 a1_0 t128).bind fun bt129 => (if bt129.2 = 0 then (some (bt129.1, t127, 0)) else (some (0, 0, 6)))) = some (r1, r2, r3) := H
 have A3 := aaM A30
 clear A30
 replace H := ooB.mp H
 obtain ⟨⟨t129, t130⟩, A40, H⟩ := H
 replace H : (if t130 = 0 then (some (t129, t127, 0)) else (some (0, 0, 6))) = some (r1, r2, r3) := H
 have A4 := aaM A40
 clear A40
 by_cases c5 : t130 = 0
 ·rw [if_pos c5] at H
  have c5b0 : (t130 == 0) = true := beq_iff_eq.mpr c5; have c5b1 : (t130 != 0) = false := bne_eq_false_iff_eq.mpr c5; clear c5; simp only [Option.some.injEq, Prod.mk.injEq] at H; obtain ⟨rfl, rfl, rfl⟩ := H; go_enter Try.func86, Try.ntmps86
  go_wp2_with (first | ((with_reducible refine gate_dst (N := 2) rfl ?_); refine bxF w HB 2 #[.int .u64 a0_0, .int .u64 a0_1] 30 ?_; intro gb124 hg w6 hb BK124 HB GE124; have GW124 := GE124; clear hb hg) | ((with_reducible refine gate_dst (N := 3) rfl ?_); refine bxF w HB 3 #[.int .u64 a1_0, .int .u64 a1_1] 30 ?_; intro gb125 hg w7 hb BK125 HB GE125; have GW125 := GE125; obtain ⟨NB124_125, NB125_124⟩ := nS hg BK124; replace BK124 := bY hb BK124; clear hb hg) | ((with_reducible refine gate_dst (N := 4) rfl ?_); refine bxF w HB 4 #[.int .u64 0, .int .u64 0] 30 ?_; intro gb126 hg w8 hb BK126 HB GE126; have GW126 := GE126; obtain ⟨NB124_126, NB126_124⟩ := nS hg BK124; replace BK124 := bY hb BK124; obtain ⟨NB125_126, NB126_125⟩ := nS hg BK125; replace BK125 := bY hb BK125; clear hb hg; have := NB124_125.out; have := NB125_124.out; have := NB124_126.out; have := NB126_124.out; obtain ⟨_, _, _, _⟩ := bE2 BK124.out; have := NB125_126.out; have := NB126_125.out; obtain ⟨_, _, _, _⟩ := bE2 BK125.out) | ((with_reducible refine gate_callee (f := 54) rfl ?_); refine goesX_ (some 15) rfl rfl #[.int .u64 a0_1, .int .u64 a1_1, .int .u64 0] rfl mG ?_; (with_reducible refine (bits_Add64.calls a0_1 a1_1 0 t127 t128 _ A3.out).mono ?_); rintro e w' ⟨rfl, ⟨nd, rfl⟩⟩; refine ⟨_, rfl, ?_⟩; (try (rw [drewN_self w8]; generalize hq_ : World.drewN w8 _ = w8; have n0_ : Aside0 (w8.heap[gb124]? = some (.cells #[.int .u64 a0_0, .int .u64 a0_1] 30 (0, 0))) := ⟨by rw [← hq_]; exact (bZ BK124)⟩; have n1_ : Aside0 (w8.heap[gb125]? = some (.cells #[.int .u64 a1_0, .int .u64 a1_1] 30 (0, 0))) := ⟨by rw [← hq_]; exact (bZ BK125)⟩; have n2_ : Aside0 (w8.heap[gb126]? = some (.cells #[.int .u64 0, .int .u64 0] 30 (0, 0))) := ⟨by rw [← hq_]; exact (bZ BK126)⟩; have n3_ : Aside0 (Below w.heap.size w w8) := ⟨by rw [← hq_]; exact (lB HB)⟩; clear BK124 BK125 BK126 HB hq_; have BK124 := n0_; have BK125 := n1_; have BK126 := n2_; have HB := n3_; clear n0_ n1_ n2_ n3_; obtain ⟨hcy124_0, hcy124_1, hfy124_0, hfy124_1⟩ := bE2 BK124.out; obtain ⟨hcy125_0, hcy125_1, hfy125_0, hfy125_1⟩ := bE2 BK125.out; obtain ⟨hcy126_0, hcy126_1, hfy126_0, hfy126_1⟩ := bE2 BK126.out))) | ((with_reducible refine gate_callee (f := 54) rfl ?_); refine goesX_ (some 24) rfl rfl #[.int .u64 a0_0, .int .u64 a1_0, .int .u64 t128] rfl mG ?_; (with_reducible refine (bits_Add64.calls a0_0 a1_0 t128 t129 t130 _ A4.out).mono ?_); rintro e w' ⟨rfl, ⟨nd, rfl⟩⟩; refine ⟨_, rfl, ?_⟩; (try (rw [drewN_self w8]; generalize hq_ : World.drewN w8 _ = w8; have n0_ : Aside0 (w8.heap[gb124]? = some (.cells #[.int .u64 a0_0, .int .u64 a0_1] 30 (0, 0))) := ⟨by rw [← hq_]; exact (bZ BK124)⟩; have n1_ : Aside0 (w8.heap[gb125]? = some (.cells #[.int .u64 a1_0, .int .u64 a1_1] 30 (0, 0))) := ⟨by rw [← hq_]; exact (bZ BK125)⟩; have n2_ : Aside0 (w8.heap[gb126]? = some (.cells #[.int .u64 0, .int .u64 0] 30 (0, 0))) := ⟨by rw [← hq_]; exact (bZ BK126)⟩; have n3_ : Aside0 (Below w.heap.size w w8) := ⟨by rw [← hq_]; exact (lB HB)⟩; clear BK124 BK125 BK126 HB hq_; have BK124 := n0_; have BK125 := n1_; have BK126 := n2_; have HB := n3_; clear n0_ n1_ n2_ n3_; obtain ⟨hcy124_0, hcy124_1, hfy124_0, hfy124_1⟩ := bE2 BK124.out; obtain ⟨hcy125_0, hcy125_1, hfy125_0, hfy125_1⟩ := bE2 BK125.out; obtain ⟨hcy126_0, hcy126_1, hfy126_0, hfy126_1⟩ := bE2 BK126.out)); obtain ⟨_, _, _, _⟩ := bE2 BK126.out))
  refine bodyPost_ret (results_ct rfl _ _ gb126 30 #[.int .u64 t129, .int .u64 t127] (0, 0) _ rfl (bZ BK126) Try.underlying30 rfl (by kernel_rfl)) rfl ?_
  exact ⟨eE, lB HB⟩
 ·rw [if_neg c5] at H
  have c5b0 : (t130 == 0) = false := beq_eq_false_iff_ne.mpr c5; have c5b1 : (t130 != 0) = true := bne_iff_ne.mpr c5; simp only [Option.some.injEq, Prod.mk.injEq] at H; obtain ⟨rfl, rfl, rfl⟩ := H; go_enter Try.func86, Try.ntmps86
  go_wp2_with (first | ((with_reducible refine gate_dst (N := 2) rfl ?_); refine bxF w HB 2 #[.int .u64 a0_0, .int .u64 a0_1] 30 ?_; intro gb124 hg w15 hb BK124 HB GE124; have GW124 := GE124; clear hb hg) | ((with_reducible refine gate_dst (N := 3) rfl ?_); refine bxF w HB 3 #[.int .u64 a1_0, .int .u64 a1_1] 30 ?_; intro gb125 hg w16 hb BK125 HB GE125; have GW125 := GE125; obtain ⟨NB124_125, NB125_124⟩ := nS hg BK124; replace BK124 := bY hb BK124; clear hb hg) | ((with_reducible refine gate_dst (N := 4) rfl ?_); refine bxF w HB 4 #[.int .u64 0, .int .u64 0] 30 ?_; intro gb126 hg w17 hb BK126 HB GE126; have GW126 := GE126; obtain ⟨NB124_126, NB126_124⟩ := nS hg BK124; replace BK124 := bY hb BK124; obtain ⟨NB125_126, NB126_125⟩ := nS hg BK125; replace BK125 := bY hb BK125; clear hb hg; have := NB124_125.out; have := NB125_124.out; have := NB124_126.out; have := NB126_124.out; obtain ⟨_, _, _, _⟩ := bE2 BK124.out; have := NB125_126.out; have := NB126_125.out; obtain ⟨_, _, _, _⟩ := bE2 BK125.out) | ((with_reducible refine gate_callee (f := 54) rfl ?_); refine goesX_ (some 15) rfl rfl #[.int .u64 a0_1, .int .u64 a1_1, .int .u64 0] rfl mG ?_; (with_reducible refine (bits_Add64.calls a0_1 a1_1 0 t127 t128 _ A3.out).mono ?_); rintro e w' ⟨rfl, ⟨nd, rfl⟩⟩; refine ⟨_, rfl, ?_⟩; (try (rw [drewN_self w17]; generalize hq_ : World.drewN w17 _ = w17; have n0_ : Aside0 (w17.heap[gb124]? = some (.cells #[.int .u64 a0_0, .int .u64 a0_1] 30 (0, 0))) := ⟨by rw [← hq_]; exact (bZ BK124)⟩; have n1_ : Aside0 (w17.heap[gb125]? = some (.cells #[.int .u64 a1_0, .int .u64 a1_1] 30 (0, 0))) := ⟨by rw [← hq_]; exact (bZ BK125)⟩; have n2_ : Aside0 (w17.heap[gb126]? = some (.cells #[.int .u64 0, .int .u64 0] 30 (0, 0))) := ⟨by rw [← hq_]; exact (bZ BK126)⟩; have n3_ : Aside0 (Below w.heap.size w w17) := ⟨by rw [← hq_]; exact (lB HB)⟩; clear BK124 BK125 BK126 HB hq_; have BK124 := n0_; have BK125 := n1_; have BK126 := n2_; have HB := n3_; clear n0_ n1_ n2_ n3_; obtain ⟨hcy124_0, hcy124_1, hfy124_0, hfy124_1⟩ := bE2 BK124.out; obtain ⟨hcy125_0, hcy125_1, hfy125_0, hfy125_1⟩ := bE2 BK125.out; obtain ⟨hcy126_0, hcy126_1, hfy126_0, hfy126_1⟩ := bE2 BK126.out))) | ((with_reducible refine gate_callee (f := 54) rfl ?_); refine goesX_ (some 24) rfl rfl #[.int .u64 a0_0, .int .u64 a1_0, .int .u64 t128] rfl mG ?_; (with_reducible refine (bits_Add64.calls a0_0 a1_0 t128 t129 t130 _ A4.out).mono ?_); rintro e w' ⟨rfl, ⟨nd, rfl⟩⟩; refine ⟨_, rfl, ?_⟩; (try (rw [drewN_self w17]; generalize hq_ : World.drewN w17 _ = w17; have n0_ : Aside0 (w17.heap[gb124]? = some (.cells #[.int .u64 a0_0, .int .u64 a0_1] 30 (0, 0))) := ⟨by rw [← hq_]; exact (bZ BK124)⟩; have n1_ : Aside0 (w17.heap[gb125]? = some (.cells #[.int .u64 a1_0, .int .u64 a1_1] 30 (0, 0))) := ⟨by rw [← hq_]; exact (bZ BK125)⟩; have n2_ : Aside0 (w17.heap[gb126]? = some (.cells #[.int .u64 0, .int .u64 0] 30 (0, 0))) := ⟨by rw [← hq_]; exact (bZ BK126)⟩; have n3_ : Aside0 (Below w.heap.size w w17) := ⟨by rw [← hq_]; exact (lB HB)⟩; clear BK124 BK125 BK126 HB hq_; have BK124 := n0_; have BK125 := n1_; have BK126 := n2_; have HB := n3_; clear n0_ n1_ n2_ n3_; obtain ⟨hcy124_0, hcy124_1, hfy124_0, hfy124_1⟩ := bE2 BK124.out; obtain ⟨hcy125_0, hcy125_1, hfy125_0, hfy125_1⟩ := bE2 BK125.out; obtain ⟨hcy126_0, hcy126_1, hfy126_0, hfy126_1⟩ := bE2 BK126.out)); obtain ⟨_, _, _, _⟩ := bE2 BK126.out))
  refine bodyPost_ret (results_ct rfl _ _ gb126 30 #[.int .u64 0, .int .u64 0] (0, 0) _ rfl (bZ BK126) Try.underlying30 rfl (by kernel_rfl)) rfl ?_
  exact ⟨eE, lB HB⟩

/-! ### bits_Mul64: function 53 -/
def bits_Mul64.f (a0 : Int) (a1 : Int) : Option (Int × Int) := some (IntKind.u64.wrap ((IntKind.u64.wrap ((IntKind.u64.wrap ((a0 / 4294967296) * (a1 / 4294967296))) + ((IntKind.u64.wrap ((IntKind.u64.wrap ((a0 / 4294967296) * (Go.bits .and .u64 a1 4294967295))) + ((IntKind.u64.wrap ((Go.bits .and .u64 a0 4294967295) * (Go.bits .and .u64 a1 4294967295))) / 4294967296))) / 4294967296))) + ((IntKind.u64.wrap ((Go.bits .and .u64 (IntKind.u64.wrap ((IntKind.u64.wrap ((a0 / 4294967296) * (Go.bits .and .u64 a1 4294967295))) + ((IntKind.u64.wrap ((Go.bits .and .u64 a0 4294967295) * (Go.bits .and .u64 a1 4294967295))) / 4294967296))) 4294967295) + (IntKind.u64.wrap ((Go.bits .and .u64 a0 4294967295) * (a1 / 4294967296))))) / 4294967296)), IntKind.u64.wrap (a0 * a1))
set_option maxHeartbeats 8000000 in
set_option maxRecDepth 100000 in
theorem bits_Mul64.calls (a0 : Int) (a1 : Int) (r1 : Int) (r2 : Int) (w : World) (h : bits_Mul64.f a0 a1 = some (r1, r2)) :
  Calls Try.prog 53 #[.int .u64 a0, .int .u64 a1] w fun e w' => e = .returned (.tuple #[.int .u64 r1, .int .u64 r2]) ∧ Drawn0 w w' := by
 have H : (some (IntKind.u64.wrap ((IntKind.u64.wrap ((IntKind.u64.wrap ((a0 / 4294967296) * (a1 / 4294967296))) + ((IntKind.u64.wrap ((IntKind.u64.wrap ((a0 / 4294967296) * (Go.bits .and .u64 a1 4294967295))) + ((IntKind.u64.wrap ((Go.bits .and .u64 a0 4294967295) * (Go.bits .and .u64 a1 4294967295))) / 4294967296))) / 4294967296))) + ((IntKind.u64.wrap ((Go.bits .and .u64 (IntKind.u64.wrap ((IntKind.u64.wrap ((a0 / 4294967296) * (Go.bits .and .u64 a1 4294967295))) + ((IntKind.u64.wrap ((Go.bits .and .u64 a0 4294967295) * (Go.bits .and .u64 a1 4294967295))) / 4294967296))) 4294967295) + (IntKind.u64.wrap ((Go.bits .and .u64 a0 4294967295) * (a1 / 4294967296))))) / 4294967296)), IntKind.u64.wrap (a0 * a1))) = some (r1, r2) := h
 clear h
 simp only [Option.some.injEq, Prod.mk.injEq] at H
 obtain ⟨rfl, rfl⟩ := H
 go_enter Try.func53, Try.ntmps53
 go_wp2
 all_goals (go_ret2; exact ⟨eF, by repeat (first | exact Drawn0.refl _ | apply Drawn0.step)⟩)

/-! ### prod_Mul: function 87 -/
def prod_Mul.f (a0 : Int) (a1 : Int) : Option (Int × Int) := (bits_Mul64.f a0 a1).bind fun bt132 => (some (bt132.1, bt132.2))
set_option maxHeartbeats 8000000 in
set_option maxRecDepth 100000 in
theorem prod_Mul.calls (a0 : Int) (a1 : Int) (r1 : Int) (r2 : Int) (w : World) (h : prod_Mul.f a0 a1 = some (r1, r2)) :
  Calls Try.prog 87 #[.int .u64 a0, .int .u64 a1] w fun e w' => e = .returned (.agg #[.int .u64 r1, .int .u64 r2]) ∧ Below w.heap.size w w' := by
 have hu30 := Try.underlying30
 have HB := aaM (Below.refl w.heap.size w)
 have H : ((bits_Mul64.f a0 a1).bind fun bt132 => (some (bt132.1, bt132.2))) = some (r1, r2) := h
 clear h
 replace H := ooB.mp H
 obtain ⟨⟨t132, t133⟩, A30, H⟩ := H
 replace H : (some (t132, t133)) = some (r1, r2) := H
 have A3 := aaM A30
 clear A30
 simp only [Option.some.injEq, Prod.mk.injEq] at H
 obtain ⟨rfl, rfl⟩ := H
 go_enter Try.func87, Try.ntmps87
 go_wp2_with (first | ((with_reducible refine gate_dst (N := 4) rfl ?_); refine bxF w HB 4 #[.int .u64 0, .int .u64 0] 30 ?_; intro gb131 hg w4 hb BK131 HB GE131; have GW131 := GE131; clear hb hg) | ((with_reducible refine gate_callee (f := 53) rfl ?_); refine gL (some 10) Try.func53 #[.int .u64 a0, .int .u64 a1] ?_; (with_reducible refine (bits_Mul64.calls a0 a1 t132 t133 _ A3.out).mono ?_); rintro e w' ⟨rfl, ⟨nd, rfl⟩⟩; refine ⟨_, rfl, ?_⟩; (try (rw [drewN_self w4]; generalize hq_ : World.drewN w4 _ = w4; have n0_ : Aside0 (w4.heap[gb131]? = some (.cells #[.int .u64 0, .int .u64 0] 30 (0, 0))) := ⟨by rw [← hq_]; exact (bZ BK131)⟩; have n1_ : Aside0 (Below w.heap.size w w4) := ⟨by rw [← hq_]; exact (lB HB)⟩; clear BK131 HB hq_; have BK131 := n0_; have HB := n1_; clear n0_ n1_; obtain ⟨_, _, _, _⟩ := bE2 BK131.out)); obtain ⟨_, _, _, _⟩ := bE2 BK131.out))
 refine bodyPost_ret (results_cell_row rfl _ _ gb131 30 #[.int .u64 t132, .int .u64 t133] (0, 0) _ rfl (bZ BK131) Try.underlying30 rfl (by kernel_rfl)) rfl ?_
 exact ⟨eE, lB HB⟩

/-! ### gini_Score: function 82 -/
def gini_Score.j0 : Nat → List Int → List Int → Bool → Option (Int × Int × Int)
 | 0, _, _, _ => none
 | k + 1, x0, x1, x33 => if x33 = true then (some (0, 0, 0)) else ((gini_total.f x0).bind fun t139 => ((gini_total.f x1).bind fun t140 => ((gini_squares.f x0).bind fun t141 => ((prod_Mul.f t141 t140).bind fun bt142 => ((gini_squares.f x1).bind fun t144 => ((prod_Mul.f t144 t139).bind fun bt145 => ((prod_Add.f bt142.1 bt142.2 bt145.1 bt145.2).bind fun bt147 => (some (bt147.1, bt147.2.1, IntKind.u64.wrap (t139 * t140))))))))))
def gini_Score.f (k : Nat) (l0 : List Int) (l1 : List Int) : Option (Int × Int × Int) := (gini_May.f k l0).bind fun t135 => (if t135 = true then ((gini_May.f k l1).bind fun t136 => (if t136 = true then (if (l0.length : Int) = (l1.length : Int) then ((gini_total.f l0).bind fun t137 => (if t137 = 0 then (gini_Score.j0 k l0 l1 true) else ((gini_total.f l1).bind fun t138 => (gini_Score.j0 k l0 l1 (t138 == 0))))) else (gini_Score.j0 k l0 l1 true)) else (gini_Score.j0 k l0 l1 true))) else (gini_Score.j0 k l0 l1 true))
theorem gini_Score.mono_l : ∀ k, (∀ y0 y1 y2, LeO (gini_Score.j0 k y0 y1 y2) (gini_Score.j0 (k + 1) y0 y1 y2))
 | 0 => fun _ _ _ r h => by simp [gini_Score.j0] at h
 | k + 1 => by
  have ih0 := gini_Score.mono_l k
  ·intro y0 y1 y2
   unfold gini_Score.j0
   repeat' first
   | (with_reducible exact ih0 _ _ _)
   | (with_reducible exact gini_May.mono _ _)
   | (with_reducible exact LeO.refl _)
   | (with_reducible exact LeO.none _)
   | (with_reducible refine LeO.ite ?_ ?_)
   | (with_reducible refine LeO.bind ?_ (fun _ => ?_))
   | exact ih0 _ _ _
   | exact gini_May.mono _ _
   | exact LeO.none _
   | refine LeO.ite ?_ ?_
   | refine LeO.bind ?_ (fun _ => ?_)
theorem gini_Score.mono : ∀ a0 a1 k, LeO (gini_Score.f k a0 a1) (gini_Score.f (k + 1) a0 a1) := by
 intro a0 a1 k
 have ih0 := gini_Score.mono_l k
 unfold gini_Score.f
 repeat' first
   | (with_reducible exact ih0 _ _ _)
   | (with_reducible exact gini_May.mono _ _)
   | (with_reducible exact LeO.refl _)
   | (with_reducible exact LeO.none _)
   | (with_reducible refine LeO.ite ?_ ?_)
   | (with_reducible refine LeO.bind ?_ (fun _ => ?_))
   | exact ih0 _ _ _
   | exact gini_May.mono _ _
   | exact LeO.none _
   | refine LeO.ite ?_ ?_
   | refine LeO.bind ?_ (fun _ => ?_)
set_option maxHeartbeats 8000000 in
set_option maxRecDepth 100000 in
theorem gini_Score.calls (k : Nat) (A0 : Option Addr) (c0 : Nat) (l0 : List Int) (A1 : Option Addr) (c1 : Nat) (l1 : List Int) (r1 : Int) (r2 : Int) (r3 : Int) (w : World) (hr0 : Kd.C (Kd.int .i64) w A0 l0.length l0) (hc0 : l0.length ≤ c0) (hr1 : Kd.C (Kd.int .i64) w A1 l1.length l1) (hc1 : l1.length ≤ c1) (h : gini_Score.f k l0 l1 = some (r1, r2, r3)) :
  Calls Try.prog 82 #[.slice A0 l0.length c0, .slice A1 l1.length c1] w fun e w' => e = .returned (.agg #[.int .u64 r1, .int .u64 r2, .int .u64 r3]) ∧ Below w.heap.size w w' := by
 have hu32 := Try.underlying32
 have hu30 := Try.underlying30
 have HR0 := aaM hr0
 have HC0 := aaM hc0
 clear hr0 hc0
 have HR1 := aaM hr1
 have HC1 := aaM hc1
 clear hr1 hc1
 have HB := aaM (Below.refl w.heap.size w)
 have H : ((gini_May.f k l0).bind fun t135 => (if t135 = true then ((gini_May.f k l1).bind fun t136 => (if t136 = true then (if (l0.length : Int) = (l1.length : Int) then ((gini_total.f l0).bind fun t137 => (if t137 = 0 then (gini_Score.j0 k l0 l1 true) else ((gini_total.f l1).bind fun t138 => (gini_Score.j0 k l0 l1 (t138 == 0))))) else (gini_Score.j0 k l0 l1 true)) else (gini_Score.j0 k l0 l1 true))) else (gini_Score.j0 k l0 l1 true))) = some (r1, r2, r3) := h
 clear h
 have HC3 := aaM H
 clear H
 go_enter Try.func82, Try.ntmps82
 go_upto_region 1 with (first | ((with_reducible refine gate_dst (N := 4) rfl ?_); (try (refine gate_guard (by rfl) ?_; dsimp only)); refine bxF w HB 4 #[.int .u64 0, .int .u64 0, .int .u64 0] 32 ?_; intro gb134 hg w4 hb BK134 HB GE134; have GW134 := GE134; clear hb hg))
 (try simp only [Act.put, ssB, ssZ, ssS])
 go_cut [33] (fun v33 wc => ∃ (kq : Nat) (x33_2 : Bool), v33 = .bool x33_2 ∧ Aside0 (gini_Score.j0 kq l0 l1 x33_2 = some (r1, r2, r3)) ∧ Aside0 (kq ≤ k) ∧ Aside0 (wc.heap[gb134]? = some (.cells #[.int .u64 0, .int .u64 0, .int .u64 0] 32 (0, 0))) ∧ Aside0 (Below w.heap.size w wc))
 case first =>
  have H := HC3.out; clear HC3; replace H := ooB.mp H; obtain ⟨t135, A50, H⟩ := H; replace H : (if t135 = true then ((gini_May.f k l1).bind fun t136 => (if t136 = true then (if (l0.length : Int) = (l1.length : Int) then ((gini_total.f l0).bind fun t137 => (if t137 = 0 then (gini_Score.j0 k l0 l1 true) else ((gini_total.f l1).bind fun t138 => (gini_Score.j0 k l0 l1 (t138 == 0))))) else (gini_Score.j0 k l0 l1 true)) else (gini_Score.j0 k l0 l1 true))) else (gini_Score.j0 k l0 l1 true)) = some (r1, r2, r3) := H; have A5 := aaM A50; clear A50
  by_cases c6 : t135 = true
  ·subst c6
   have H1 : ((gini_May.f k l1).bind fun t136 => (if t136 = true then (if (l0.length : Int) = (l1.length : Int) then ((gini_total.f l0).bind fun t137 => (if t137 = 0 then (gini_Score.j0 k l0 l1 true) else ((gini_total.f l1).bind fun t138 => (gini_Score.j0 k l0 l1 (t138 == 0))))) else (gini_Score.j0 k l0 l1 true)) else (gini_Score.j0 k l0 l1 true))) = some (r1, r2, r3) := by rw [if_pos rfl] at H; exact H
   clear H; have H := H1; clear H1; replace H := ooB.mp H; obtain ⟨t136, A70, H⟩ := H; replace H : (if t136 = true then (if (l0.length : Int) = (l1.length : Int) then ((gini_total.f l0).bind fun t137 => (if t137 = 0 then (gini_Score.j0 k l0 l1 true) else ((gini_total.f l1).bind fun t138 => (gini_Score.j0 k l0 l1 (t138 == 0))))) else (gini_Score.j0 k l0 l1 true)) else (gini_Score.j0 k l0 l1 true)) = some (r1, r2, r3) := H; have A7 := aaM A70; clear A70
   by_cases c8 : t136 = true
   ·subst c8
    have H1 : (if (l0.length : Int) = (l1.length : Int) then ((gini_total.f l0).bind fun t137 => (if t137 = 0 then (gini_Score.j0 k l0 l1 true) else ((gini_total.f l1).bind fun t138 => (gini_Score.j0 k l0 l1 (t138 == 0))))) else (gini_Score.j0 k l0 l1 true)) = some (r1, r2, r3) := by rw [if_pos rfl] at H; exact H
    clear H; have H := H1; clear H1
    by_cases c9 : (l0.length : Int) = (l1.length : Int)
    ·rw [if_pos c9] at H
     have c9b0 : ((l0.length : Int) == (l1.length : Int)) = true := beq_iff_eq.mpr c9; have c9b1 : ((l0.length : Int) != (l1.length : Int)) = false := bne_eq_false_iff_eq.mpr c9
     have c9b2 : (l0.length == l1.length) = true := by first | simpa using c9 | (simp at c9 ⊢; omega)
     clear c9; (first | rw [c9b0] | (simp only [i64_w, i32_w]; rw [c9b0]) | skip); replace H := ooB.mp H; obtain ⟨t137, A100, H⟩ := H; replace H : (if t137 = 0 then (gini_Score.j0 k l0 l1 true) else ((gini_total.f l1).bind fun t138 => (gini_Score.j0 k l0 l1 (t138 == 0)))) = some (r1, r2, r3) := H; have A10 := aaM A100; clear A100
     by_cases c11 : t137 = 0
     ·rw [if_pos c11] at H
      have c11b0 : (t137 == 0) = true := beq_iff_eq.mpr c11; have c11b1 : (t137 != 0) = false := bne_eq_false_iff_eq.mpr c11; clear c11; have H' := aaM H; clear H
      go_wp2_with (first | ((with_reducible refine gate_callee (f := 83) rfl ?_); refine gL (some 10) Try.func83 #[.slice A0 l0.length c0] ?_; (with_reducible refine (gini_May.calls k _ _ l0 true _ ?side1 ?side2 A5.out).mono ?_); (case side1 => exact cZ (ccB HR0.out HB.out)); (case side2 => exact HC0.out); rintro e w' ⟨rfl, ⟨nd, rfl⟩⟩; refine ⟨_, rfl, ?_⟩) | (go_at_call 83; (with_reducible refine (gini_May.calls k _ _ l1 true _ ?side1 ?side2 A7.out).mono ?_); (case side1 => exact cZ (ccB HR1.out (lB HB))); (case side2 => exact HC1.out); rintro e w' ⟨rfl, ⟨nd, rfl⟩⟩) | (go_at_call 84; (with_reducible refine (gini_total.calls _ _ l0 t137 _ ?side1 ?side2 A10.out).mono ?_); (case side1 => exact cZ (ccB HR0.out (lB HB))); (case side2 => exact HC0.out); rintro e w' ⟨rfl, ⟨nd, rfl⟩⟩))
      go_meet
      case rel => exact ⟨_, (true), (eF), H', ⟨by first | omega | exact Nat.le_refl _⟩, ⟨bZ BK134⟩, ⟨lB HB⟩⟩
     ·rw [if_neg c11] at H
      have c11b0 : (t137 == 0) = false := beq_eq_false_iff_ne.mpr c11; have c11b1 : (t137 != 0) = true := bne_iff_ne.mpr c11; replace H := ooB.mp H; obtain ⟨t138, A120, H⟩ := H; replace H : (gini_Score.j0 k l0 l1 (t138 == 0)) = some (r1, r2, r3) := H; have A12 := aaM A120; clear A120; have H' := aaM H; clear H
      go_wp2_with (first | ((with_reducible refine gate_callee (f := 83) rfl ?_); refine gL (some 10) Try.func83 #[.slice A0 l0.length c0] ?_; (with_reducible refine (gini_May.calls k _ _ l0 true _ ?side1 ?side2 A5.out).mono ?_); (case side1 => exact cZ (ccB HR0.out HB.out)); (case side2 => exact HC0.out); rintro e w' ⟨rfl, ⟨nd, rfl⟩⟩; refine ⟨_, rfl, ?_⟩) | (go_at_call 83; (with_reducible refine (gini_May.calls k _ _ l1 true _ ?side1 ?side2 A7.out).mono ?_); (case side1 => exact cZ (ccB HR1.out (lB HB))); (case side2 => exact HC1.out); rintro e w' ⟨rfl, ⟨nd, rfl⟩⟩) | (go_at_call 84; (with_reducible refine (gini_total.calls _ _ l0 t137 _ ?side1 ?side2 A10.out).mono ?_); (case side1 => exact cZ (ccB HR0.out (lB HB))); (case side2 => exact HC0.out); rintro e w' ⟨rfl, ⟨nd, rfl⟩⟩) | (go_at_call 84; (with_reducible refine (gini_total.calls _ _ l1 t138 _ ?side1 ?side2 A12.out).mono ?_); (case side1 => exact cZ (ccB HR1.out (lB HB))); (case side2 => exact HC1.out); rintro e w' ⟨rfl, ⟨nd, rfl⟩⟩))
      go_meet
      case rel => exact ⟨_, ((t138 == 0)), (eF), H', ⟨by first | omega | exact Nat.le_refl _⟩, ⟨bZ BK134⟩, ⟨lB HB⟩⟩
    ·rw [if_neg c9] at H
     have c9b0 : ((l0.length : Int) == (l1.length : Int)) = false := beq_eq_false_iff_ne.mpr c9; have c9b1 : ((l0.length : Int) != (l1.length : Int)) = true := bne_iff_ne.mpr c9
     have c9b2 : (l0.length == l1.length) = false := by first | simpa using c9 | (simp at c9 ⊢; omega)
     (first | rw [c9b0] | (simp only [i64_w, i32_w]; rw [c9b0]) | skip); have H' := aaM H; clear H
     go_wp2_with (first | ((with_reducible refine gate_callee (f := 83) rfl ?_); refine gL (some 10) Try.func83 #[.slice A0 l0.length c0] ?_; (with_reducible refine (gini_May.calls k _ _ l0 true _ ?side1 ?side2 A5.out).mono ?_); (case side1 => exact cZ (ccB HR0.out HB.out)); (case side2 => exact HC0.out); rintro e w' ⟨rfl, ⟨nd, rfl⟩⟩; refine ⟨_, rfl, ?_⟩) | (go_at_call 83; (with_reducible refine (gini_May.calls k _ _ l1 true _ ?side1 ?side2 A7.out).mono ?_); (case side1 => exact cZ (ccB HR1.out (lB HB))); (case side2 => exact HC1.out); rintro e w' ⟨rfl, ⟨nd, rfl⟩⟩))
     go_meet
     case rel => exact ⟨_, (true), (eF), H', ⟨by first | omega | exact Nat.le_refl _⟩, ⟨bZ BK134⟩, ⟨lB HB⟩⟩
   ·replace c8 := Bool.eq_false_iff.mpr c8
    subst c8
    have H1 : (gini_Score.j0 k l0 l1 true) = some (r1, r2, r3) := by rw [if_neg (show ¬ (false = true) by decide)] at H; exact H
    clear H; have H := H1; clear H1; have H' := aaM H; clear H
    go_wp2_with (first | ((with_reducible refine gate_callee (f := 83) rfl ?_); refine gL (some 10) Try.func83 #[.slice A0 l0.length c0] ?_; (with_reducible refine (gini_May.calls k _ _ l0 true _ ?side1 ?side2 A5.out).mono ?_); (case side1 => exact cZ (ccB HR0.out HB.out)); (case side2 => exact HC0.out); rintro e w' ⟨rfl, ⟨nd, rfl⟩⟩; refine ⟨_, rfl, ?_⟩) | (go_at_call 83; (with_reducible refine (gini_May.calls k _ _ l1 false _ ?side1 ?side2 A7.out).mono ?_); (case side1 => exact cZ (ccB HR1.out (lB HB))); (case side2 => exact HC1.out); rintro e w' ⟨rfl, ⟨nd, rfl⟩⟩))
    go_meet
    case rel => exact ⟨_, (true), (eF), H', ⟨by first | omega | exact Nat.le_refl _⟩, ⟨bZ BK134⟩, ⟨lB HB⟩⟩
  ·replace c6 := Bool.eq_false_iff.mpr c6
   subst c6
   have H1 : (gini_Score.j0 k l0 l1 true) = some (r1, r2, r3) := by rw [if_neg (show ¬ (false = true) by decide)] at H; exact H
   clear H; have H := H1; clear H1; have H' := aaM H; clear H
   go_wp2_with (first | ((with_reducible refine gate_callee (f := 83) rfl ?_); refine gL (some 10) Try.func83 #[.slice A0 l0.length c0] ?_; (with_reducible refine (gini_May.calls k _ _ l0 false _ ?side1 ?side2 A5.out).mono ?_); (case side1 => exact cZ (ccB HR0.out HB.out)); (case side2 => exact HC0.out); rintro e w' ⟨rfl, ⟨nd, rfl⟩⟩; refine ⟨_, rfl, ?_⟩))
   go_meet
   case rel => exact ⟨_, (true), (eF), H', ⟨by first | omega | exact Nat.le_refl _⟩, ⟨bZ BK134⟩, ⟨lB HB⟩⟩
 case rest =>
  clear HC3; (try clear c1); (try clear p2); (try clear c6); (try clear c8); (try clear c9); (try clear c9b0); (try clear c9b1); (try clear c9b2); (try clear c11); (try clear c11b0); (try clear c11b1); obtain ⟨kq, x33_2, rfl, HA, HJ2, BK134, HB⟩ := hcut
  cases kq with
  | zero => exact absurd HA.out (by simp [gini_Score.j0])
  | succ kj2 =>
   have H := HA.out; clear HA; simp only [gini_Score.j0] at H
   by_cases c13 : x33_2 = true
   ·subst c13
    have H1 : (some (0, 0, 0)) = some (r1, r2, r3) := by rw [if_pos rfl] at H; exact H
    clear H; have H := H1; clear H1; simp only [Option.some.injEq, Prod.mk.injEq] at H; obtain ⟨rfl, rfl, rfl⟩ := H; obtain ⟨_, _, _, _, _, _⟩ := bE3 BK134.out; go_wp2; refine bodyPost_ret (results_cell_row rfl _ _ gb134 32 #[.int .u64 0, .int .u64 0, .int .u64 0] (0, 0) _ rfl (bZ BK134) Try.underlying32 rfl (by kernel_rfl)) rfl ?_
    exact ⟨eE, lB HB⟩
   ·replace c13 := Bool.eq_false_iff.mpr c13
    subst c13
    have H1 : ((gini_total.f l0).bind fun t139 => ((gini_total.f l1).bind fun t140 => ((gini_squares.f l0).bind fun t141 => ((prod_Mul.f t141 t140).bind fun bt142 => ((gini_squares.f l1).bind fun t144 => ((prod_Mul.f t144 t139).bind fun bt145 => ((prod_Add.f bt142.1 bt142.2 bt145.1 bt145.2).bind fun bt147 => (some (bt147.1, bt147.2.1, IntKind.u64.wrap (t139 * t140)))))))))) = some (r1, r2, r3) := by rw [if_neg (show ¬ (false = true) by decide)] at H; exact H
    clear H; have H := H1; clear H1; replace H := ooB.mp H; obtain ⟨t139, A150, H⟩ := H; replace H : ((gini_total.f l1).bind fun t140 => ((gini_squares.f l0).bind fun t141 => ((prod_Mul.f t141 t140).bind fun bt142 => ((gini_squares.f l1).bind fun t144 => ((prod_Mul.f t144 t139).bind fun bt145 => ((prod_Add.f bt142.1 bt142.2 bt145.1 bt145.2).bind fun bt147 => (some (bt147.1, bt147.2.1, IntKind.u64.wrap (t139 * t140))))))))) = some (r1, r2, r3) := H; have A15 := aaM A150; clear A150; replace H := ooB.mp H; obtain ⟨t140, A160, H⟩ := H; replace H : ((gini_squares.f l0).bind fun t141 => ((prod_Mul.f t141 t140).bind fun bt142 => ((gini_squares.f l1).bind fun t144 => ((prod_Mul.f t144 t139).bind fun bt145 => ((prod_Add.f bt142.1 bt142.2 bt145.1 bt145.2).bind fun bt147 => (some (bt147.1, bt147.2.1, IntKind.u64.wrap (t139 * t140)))))))) = some (r1, r2, r3) := H; have A16 := aaM A160; clear A160; replace H := ooB.mp H; obtain ⟨t141, A170, H⟩ := H; replace H : ((prod_Mul.f t141 t140).bind fun bt142 => ((gini_squares.f l1).bind fun t144 => ((prod_Mul.f t144 t139).bind fun bt145 => ((prod_Add.f bt142.1 bt142.2 bt145.1 bt145.2).bind fun bt147 => (some (bt147.1, bt147.2.1, IntKind.u64.wrap (t139 * t140))))))) = some (r1, r2, r3) := H; have A17 := aaM A170; clear A170; replace H := ooB.mp H; obtain ⟨⟨t142, t143⟩, A180, H⟩ := H; replace H : ((gini_squares.f l1).bind fun t144 => ((prod_Mul.f t144 t139).bind fun bt145 => ((prod_Add.f t142 t143 bt145.1 bt145.2).bind fun bt147 => (some (bt147.1, bt147.2.1, IntKind.u64.wrap (t139 * t140)))))) = some (r1, r2, r3) := H; have A18 := aaM A180; clear A180; replace H := ooB.mp H; obtain ⟨t144, A190, H⟩ := H; replace H : ((prod_Mul.f t144 t139).bind fun bt145 => ((prod_Add.f t142 t143 bt145.1 bt145.2).bind fun bt147 => (some (bt147.1, bt147.2.1, IntKind.u64.wrap (t139 * t140))))) = some (r1, r2, r3) := H; have A19 := aaM A190; clear A190; replace H := ooB.mp H; obtain ⟨⟨t145, t146⟩, A200, H⟩ := H; replace H : ((prod_Add.f t142 t143 t145 t146).bind fun bt147 => (some (bt147.1, bt147.2.1, IntKind.u64.wrap (t139 * t140)))) = some (r1, r2, r3) := H; have A20 := aaM A200; clear A200; replace H := ooB.mp H; obtain ⟨⟨t147, t148, t149⟩, A210, H⟩ := H; replace H : (some (t147, t148, IntKind.u64.wrap (t139 * t140))) = some (r1, r2, r3) := H; have A21 := aaM A210; clear A210; simp only [Option.some.injEq, Prod.mk.injEq] at H; obtain ⟨rfl, rfl, rfl⟩ := H
    go_wp2_with (first | ((with_reducible refine gate_callee (f := 84) rfl ?_); refine gL (some 36) Try.func84 #[.slice A0 l0.length c0] ?_; (with_reducible refine (gini_total.calls _ _ l0 t139 _ ?side1 ?side2 A15.out).mono ?_); (case side1 => exact cZ (ccB HR0.out HB.out)); (case side2 => exact HC0.out); rintro e w' ⟨rfl, ⟨nd, rfl⟩⟩; refine ⟨_, rfl, ?_⟩; (try (rw [drewN_self wc]; generalize hq_ : World.drewN wc _ = wc; have n0_ : Aside0 (wc.heap[gb134]? = some (.cells #[.int .u64 0, .int .u64 0, .int .u64 0] 32 (0, 0))) := ⟨by rw [← hq_]; exact (bZ BK134)⟩; have n1_ : Aside0 (Below w.heap.size w wc) := ⟨by rw [← hq_]; exact (lB HB)⟩; clear BK134 HB hq_; have BK134 := n0_; have HB := n1_; clear n0_ n1_))) | ((with_reducible refine gate_callee (f := 84) rfl ?_); refine gL (some 38) Try.func84 #[.slice A1 l1.length c1] ?_; (with_reducible refine (gini_total.calls _ _ l1 t140 _ ?side1 ?side2 A16.out).mono ?_); (case side1 => exact cZ (ccB HR1.out HB.out)); (case side2 => exact HC1.out); rintro e w' ⟨rfl, ⟨nd, rfl⟩⟩; refine ⟨_, rfl, ?_⟩; (try (rw [drewN_self wc]; generalize hq_ : World.drewN wc _ = wc; have n0_ : Aside0 (wc.heap[gb134]? = some (.cells #[.int .u64 0, .int .u64 0, .int .u64 0] 32 (0, 0))) := ⟨by rw [← hq_]; exact (bZ BK134)⟩; have n1_ : Aside0 (Below w.heap.size w wc) := ⟨by rw [← hq_]; exact (lB HB)⟩; clear BK134 HB hq_; have BK134 := n0_; have HB := n1_; clear n0_ n1_))) | ((with_reducible refine gate_callee (f := 85) rfl ?_); refine gL (some 41) Try.func85 #[.slice A0 l0.length c0] ?_; (with_reducible refine (gini_squares.calls _ _ l0 t141 _ ?side1 ?side2 A17.out).mono ?_); (case side1 => exact cZ (ccB HR0.out HB.out)); (case side2 => exact HC0.out); rintro e w' ⟨rfl, ⟨nd, rfl⟩⟩; refine ⟨_, rfl, ?_⟩; (try (rw [drewN_self wc]; generalize hq_ : World.drewN wc _ = wc; have n0_ : Aside0 (wc.heap[gb134]? = some (.cells #[.int .u64 0, .int .u64 0, .int .u64 0] 32 (0, 0))) := ⟨by rw [← hq_]; exact (bZ BK134)⟩; have n1_ : Aside0 (Below w.heap.size w wc) := ⟨by rw [← hq_]; exact (lB HB)⟩; clear BK134 HB hq_; have BK134 := n0_; have HB := n1_; clear n0_ n1_))) | ((with_reducible refine gate_callee (f := 87) rfl ?_); refine gL (some 43) Try.func87 #[.int .u64 t141, .int .u64 t140] ?_; (with_reducible refine (prod_Mul.calls t141 t140 t142 t143 _ A18.out).mono ?_); rintro e w22 ⟨rfl, hb⟩; refine ⟨_, rfl, ?_⟩; replace BK134 := bY hb BK134; replace HB := aaM (lP (lB HB) hb); (try clear hb); (try clear hb2); (try clear hk); (try clear hi)) | ((with_reducible refine gate_callee (f := 85) rfl ?_); refine gL (some 45) Try.func85 #[.slice A1 l1.length c1] ?_; (with_reducible refine (gini_squares.calls _ _ l1 t144 _ ?side1 ?side2 A19.out).mono ?_); (case side1 => exact cZ (ccB HR1.out HB.out)); (case side2 => exact HC1.out); rintro e w' ⟨rfl, ⟨nd, rfl⟩⟩; refine ⟨_, rfl, ?_⟩; (try (rw [drewN_self w22]; generalize hq_ : World.drewN w22 _ = w22; have n0_ : Aside0 (w22.heap[gb134]? = some (.cells #[.int .u64 0, .int .u64 0, .int .u64 0] 32 (0, 0))) := ⟨by rw [← hq_]; exact (bZ BK134)⟩; have n1_ : Aside0 (Below w.heap.size w w22) := ⟨by rw [← hq_]; exact (lB HB)⟩; clear BK134 HB hq_; have BK134 := n0_; have HB := n1_; clear n0_ n1_; obtain ⟨_, _, _, _, _, _⟩ := bE3 BK134.out))) | ((with_reducible refine gate_callee (f := 87) rfl ?_); refine gL (some 47) Try.func87 #[.int .u64 t144, .int .u64 t139] ?_; (with_reducible refine (prod_Mul.calls t144 t139 t145 t146 _ A20.out).mono ?_); rintro e w23 ⟨rfl, hb⟩; refine ⟨_, rfl, ?_⟩; replace BK134 := bY hb BK134; replace HB := aaM (lP (lB HB) hb); (try clear hb); (try clear hb2); (try clear hk); (try clear hi)) | ((with_reducible refine gate_callee (f := 86) rfl ?_); refine gL (some 48) Try.func86 #[.agg #[.int .u64 t142, .int .u64 t143], .agg #[.int .u64 t145, .int .u64 t146]] ?_; (with_reducible refine (prod_Add.calls t142 t143 t145 t146 t147 t148 t149 _ A21.out).mono ?_); rintro e w24 ⟨rfl, hb⟩; refine ⟨_, rfl, ?_⟩; replace BK134 := bY hb BK134; replace HB := aaM (lP (lB HB) hb); (try clear hb); (try clear hb2); (try clear hk); (try clear hi)) | ((with_reducible refine gate_dst (N := 7) rfl ?_); (try (refine gate_guard (by rfl) ?_; dsimp only)); refine bxF w HB 7 #[.int .u64 0, .int .u64 0] 30 ?_; intro gb150 hg w25 hb BK150 HB GE150; have GW150 := GE150; obtain ⟨NB134_150, NB150_134⟩ := nS hg BK134; replace BK134 := bY hb BK134; clear hb hg; have := NB150_134.out; have := NB134_150.out; obtain ⟨_, _, _, _⟩ := bE2 BK150.out; obtain ⟨_, _, _, _, _, _⟩ := bE3 BK134.out))
    refine bodyPost_ret (results_cell_row rfl _ _ gb134 32 #[.int .u64 t147, .int .u64 t148, .int .u64 (IntKind.u64.wrap (t139 * t140))] (0, 0) _ rfl (bZ BK134) Try.underlying32 rfl (by kernel_rfl)) rfl ?_
    exact ⟨eE, lB HB⟩

-- NOT PRINTED: function 79 (split_classes_score)

/-! ### split_classes_size: function 80 -/
def split_classes_size.l0 : Nat → Int → List Int → Int → Int → Option (Int)
 | 0, _, _, _, _ => none
 | k + 1, x3, x11, x12, x13 => if x13 < x12 then (if 0 ≤ x13 then (if x13 < (x11.length : Int) then (split_classes_size.l0 k (wrap64 (x3 + (rd x11 x13))) x11 x12 (wrap64 (x13 + 1))) else (none)) else (none)) else (some x3)
def split_classes_size.f (k : Nat) (l0_0 : List Int) : Option (Int) := (gini_May.f k l0_0).bind fun t152 => (if t152 = true then (split_classes_size.l0 k 0 l0_0 (l0_0.length : Int) 0) else (some 0))
theorem split_classes_size.mono_l : ∀ k, (∀ y0 y1 y2 y3, LeO (split_classes_size.l0 k y0 y1 y2 y3) (split_classes_size.l0 (k + 1) y0 y1 y2 y3))
 | 0 => fun _ _ _ _ r h => by simp [split_classes_size.l0] at h
 | k + 1 => by
  have ih0 := split_classes_size.mono_l k
  ·intro y0 y1 y2 y3
   unfold split_classes_size.l0
   repeat' first
   | (with_reducible exact ih0 _ _ _ _)
   | (with_reducible exact gini_May.mono _ _)
   | (with_reducible exact LeO.refl _)
   | (with_reducible exact LeO.none _)
   | (with_reducible refine LeO.ite ?_ ?_)
   | (with_reducible refine LeO.bind ?_ (fun _ => ?_))
   | exact ih0 _ _ _ _
   | exact gini_May.mono _ _
   | exact LeO.none _
   | refine LeO.ite ?_ ?_
   | refine LeO.bind ?_ (fun _ => ?_)
theorem split_classes_size.mono : ∀ a0 k, LeO (split_classes_size.f k a0) (split_classes_size.f (k + 1) a0) := by
 intro a0 k
 have ih0 := split_classes_size.mono_l k
 unfold split_classes_size.f
 repeat' first
   | (with_reducible exact ih0 _ _ _ _)
   | (with_reducible exact gini_May.mono _ _)
   | (with_reducible exact LeO.refl _)
   | (with_reducible exact LeO.none _)
   | (with_reducible refine LeO.ite ?_ ?_)
   | (with_reducible refine LeO.bind ?_ (fun _ => ?_))
   | exact ih0 _ _ _ _
   | exact gini_May.mono _ _
   | exact LeO.none _
   | refine LeO.ite ?_ ?_
   | refine LeO.bind ?_ (fun _ => ?_)
set_option maxHeartbeats 8000000 in
set_option maxRecDepth 100000 in
theorem split_classes_size.calls (k : Nat) (A0_0 : Option Addr) (c0_0 : Nat) (l0_0 : List Int) (r : Int) (w : World) (hr0_0 : Kd.C (Kd.int .i64) w A0_0 l0_0.length l0_0) (hc0_0 : l0_0.length ≤ c0_0) (h : split_classes_size.f k l0_0 = some r) :
  Calls Try.prog 80 #[.agg #[.slice A0_0 l0_0.length c0_0]] w fun e w' => e = .returned (.int .i64 r) ∧ Below w.heap.size w w' := by
 have hu81 := Try.underlying81
 have HR0_0 := aaM hr0_0
 have HC0_0 := aaM hc0_0
 clear hr0_0 hc0_0
 have HB := aaM (Below.refl w.heap.size w)
 have H : ((gini_May.f k l0_0).bind fun t152 => (if t152 = true then (split_classes_size.l0 k 0 l0_0 (l0_0.length : Int) 0) else (some 0))) = some r := h
 clear h
 replace H := ooB.mp H
 obtain ⟨t152, A20, H⟩ := H
 replace H : (if t152 = true then (split_classes_size.l0 k 0 l0_0 (l0_0.length : Int) 0) else (some 0)) = some r := H
 have A2 := aaM A20
 clear A20
 by_cases c3 : t152 = true
 ·subst c3
  have H1 : (split_classes_size.l0 k 0 l0_0 (l0_0.length : Int) 0) = some r := by rw [if_pos rfl] at H; exact H
  clear H; have H := H1; clear H1; have H' := aaM H; clear H; go_enter Try.func80, Try.ntmps80
  go_wp2_with (first | ((with_reducible refine gate_dst (N := 1) rfl ?_); refine bxF w HB 1 #[.slice A0_0 l0_0.length c0_0] 81 ?_; intro gb151 hg w4 hb BK151 HB GE151; have GW151 := GE151; clear hb hg; obtain ⟨hcz5_0, hfz5_0⟩ := bE1 BK151.out) | ((with_reducible refine gate_callee (f := 83) rfl ?_); refine gL (some 8) Try.func83 #[.slice A0_0 l0_0.length c0_0] ?_; (with_reducible refine (gini_May.calls k _ _ l0_0 true _ ?side1 ?side2 A2.out).mono ?_); (case side1 => exact cZ (ccB HR0_0.out HB.out)); (case side2 => exact HC0_0.out); rintro e w' ⟨rfl, ⟨nd, rfl⟩⟩; refine ⟨_, rfl, ?_⟩))
  go_loopg [3, 13] k (fun kq v3 v13 w' => ∃ (x3_1 : Int) (x13_1 : Int), v3 = .int .i64 x3_1 ∧ v13 = .int .i64 x13_1 ∧ Aside0 (split_classes_size.l0 kq x3_1 l0_0 (l0_0.length : Int) x13_1 = some r) ∧ Aside0 (kq ≤ k) ∧ Aside0 (w'.heap[gb151]? = some (.cells #[(.slice A0_0 l0_0.length c0_0)] 81 (0, 0))) ∧ Aside0 (Below w.heap.size w w'))
  case atStart => exact ⟨(0), (0), (eF), (eF), H', ⟨Nat.le_refl _⟩, ⟨bZ BK151⟩, ⟨lB HB⟩⟩
  case round =>
   clear H'; (try clear p2); (try clear c3); (try clear hcz5_0); (try clear hfz5_0); obtain ⟨x3_1, x13_1, rfl, rfl, HA, HK1, BK151, HB⟩ := hrel
   cases gk with
   | zero => exact absurd HA.out (by simp [split_classes_size.l0])
   | succ k1 =>
    have H := HA.out; clear HA; simp only [split_classes_size.l0] at H
    by_cases c6 : x13_1 < (l0_0.length : Int)
    ·rw [if_pos c6] at H
     have c6b0 : decide (x13_1 < (l0_0.length : Int)) = true := decide_eq_true c6; clear c6
     by_cases c7 : 0 ≤ x13_1
     ·rw [if_pos c7] at H
      have c7b0 : decide (0 ≤ x13_1) = true := decide_eq_true c7; clear c7
      by_cases c8 : x13_1 < (l0_0.length : Int)
      ·rw [if_pos c8] at H
       have c8b0 : decide (x13_1 < (l0_0.length : Int)) = true := decide_eq_true c8; clear c8; have H' := aaM H; clear H; have p153 : 0 ≤ (x13_1 : Int) := of_decide_eq_true (by first | (with_reducible assumption) | assumption); have q153 : x13_1 < (l0_0.length : Int) := of_decide_eq_true (by first | (with_reducible assumption) | assumption); obtain ⟨ad153, e153, hx153_0⟩ := Kd.at_int HR0_0.out x13_1 p153 q153
       cases e153
       replace hx153_0 := (HB.out.cell (World.block_lt_of_cell? w _ hx153_0)).trans hx153_0; replace p153 := eq_true p153; replace q153 := eq_true q153; go_wp2
       go_roundg k1
       case measure => have := HK1.out; omega
       case rel => exact ⟨(wrap64 (x3_1 + (rd l0_0 x13_1))), (wrap64 (x13_1 + 1)), (eF), (eF), H', ⟨by have := HK1.out; omega⟩, ⟨bZ BK151⟩, ⟨lB HB⟩⟩
      ·rw [if_neg c8] at H
       exact absurd H (by simp)
     ·rw [if_neg c7] at H
      exact absurd H (by simp)
    ·rw [if_neg c6] at H
     have c6b0 : decide (x13_1 < (l0_0.length : Int)) = false := decide_eq_false c6; clear c6; obtain rfl := Option.some.inj H; go_wp2
     all_goals (go_ret; exact ⟨by first | rfl | (simp [errW_none, errW_some] <;> rfl) | (simp [*, errW_none, errW_some] <;> rfl) | (simp_all; done), lB HB⟩)
 ·replace c3 := Bool.eq_false_iff.mpr c3
  subst c3
  have H1 : (some 0) = some r := by rw [if_neg (show ¬ (false = true) by decide)] at H; exact H
  clear H; have H := H1; clear H1; obtain rfl := Option.some.inj H; go_enter Try.func80, Try.ntmps80
  go_wp2_with (first | ((with_reducible refine gate_dst (N := 1) rfl ?_); refine bxF w HB 1 #[.slice A0_0 l0_0.length c0_0] 81 ?_; intro gb151 hg w9 hb BK151 HB GE151; have GW151 := GE151; clear hb hg; obtain ⟨_, _⟩ := bE1 BK151.out) | ((with_reducible refine gate_callee (f := 83) rfl ?_); refine gL (some 8) Try.func83 #[.slice A0_0 l0_0.length c0_0] ?_; (with_reducible refine (gini_May.calls k _ _ l0_0 false _ ?side1 ?side2 A2.out).mono ?_); (case side1 => exact cZ (ccB HR0_0.out HB.out)); (case side2 => exact HC0_0.out); rintro e w' ⟨rfl, ⟨nd, rfl⟩⟩; refine ⟨_, rfl, ?_⟩))
  all_goals (go_ret; exact ⟨by first | rfl | (simp [errW_none, errW_some] <;> rfl) | (simp [*, errW_none, errW_some] <;> rfl) | (simp_all; done), lB HB⟩)

/-! ### prod_size: function 103 -/
def prod_size.f (a0 : Int) : Option (Int) := if a0 < 0 then (some (IntKind.u64.wrap (-(IntKind.u64.wrap (a0))))) else (some (IntKind.u64.wrap (a0)))
set_option maxHeartbeats 8000000 in
set_option maxRecDepth 100000 in
theorem prod_size.calls (a0 : Int) (r : Int) (w : World) (h : prod_size.f a0 = some r) :
  Calls Try.prog 103 #[.int .i64 a0] w fun e w' => e = .returned (.int .u64 r) ∧ Drawn0 w w' := by
 have H : (if a0 < 0 then (some (IntKind.u64.wrap (-(IntKind.u64.wrap (a0))))) else (some (IntKind.u64.wrap (a0)))) = some r := h
 clear h
 by_cases c2 : a0 < 0
 ·rw [if_pos c2] at H
  have c2b0 : decide (a0 < 0) = true := decide_eq_true c2; clear c2; obtain rfl := Option.some.inj H; go_enter Try.func103, Try.ntmps103; go_wp2
  all_goals (go_ret; exact ⟨eF, by repeat (first | exact Drawn0.refl _ | apply Drawn0.step)⟩)
 ·rw [if_neg c2] at H
  have c2b0 : decide (a0 < 0) = false := decide_eq_false c2; clear c2; obtain rfl := Option.some.inj H; go_enter Try.func103, Try.ntmps103; go_wp2
  all_goals (go_ret; exact ⟨eF, by repeat (first | exact Drawn0.refl _ | apply Drawn0.step)⟩)

/-! ### prod_Square: function 98 -/
def prod_Square.f (a0 : Int) : Option (Int × Int) := (prod_size.f a0).bind fun t155 => ((prod_size.f a0).bind fun t156 => ((prod_Mul.f t155 t156).bind fun bt157 => (some (bt157.1, bt157.2))))
set_option maxHeartbeats 8000000 in
set_option maxRecDepth 100000 in
theorem prod_Square.calls (a0 : Int) (r1 : Int) (r2 : Int) (w : World) (h : prod_Square.f a0 = some (r1, r2)) :
  Calls Try.prog 98 #[.int .i64 a0] w fun e w' => e = .returned (.agg #[.int .u64 r1, .int .u64 r2]) ∧ Below w.heap.size w w' := by
 have hu30 := Try.underlying30
 have HB := aaM (Below.refl w.heap.size w)
 have H : ((prod_size.f a0).bind fun t155 => ((prod_size.f a0).bind fun t156 => ((prod_Mul.f t155 t156).bind fun bt157 => (some (bt157.1, bt157.2))))) = some (r1, r2) := h
 clear h
 replace H := ooB.mp H
 obtain ⟨t155, A20, H⟩ := H
 replace H : ((prod_size.f a0).bind fun t156 => ((prod_Mul.f t155 t156).bind fun bt157 => (some (bt157.1, bt157.2)))) = some (r1, r2) := H
 have A2 := aaM A20
 clear A20
 replace H := ooB.mp H
 obtain ⟨t156, A30, H⟩ := H
 replace H : ((prod_Mul.f t155 t156).bind fun bt157 => (some (bt157.1, bt157.2))) = some (r1, r2) := H
 have A3 := aaM A30
 obtain rfl : t155 = t156 := Option.some.inj (A2.out.symm.trans A3.out)
 clear A30
 replace H := ooB.mp H
 obtain ⟨⟨t157, t158⟩, A40, H⟩ := H
 replace H : (some (t157, t158)) = some (r1, r2) := H
 have A4 := aaM A40
 clear A40
 simp only [Option.some.injEq, Prod.mk.injEq] at H
 obtain ⟨rfl, rfl⟩ := H
 go_enter Try.func98, Try.ntmps98
 go_wp2_with (first | ((with_reducible refine gate_dst (N := 2) rfl ?_); refine bxF w HB 2 #[.int .u64 0, .int .u64 0] 30 ?_; intro gb154 hg w5 hb BK154 HB GE154; have GW154 := GE154; clear hb hg) | ((with_reducible refine gate_callee (f := 103) rfl ?_); refine gL (some 4) Try.func103 #[.int .i64 a0] ?_; (with_reducible refine (prod_size.calls a0 t155 _ A2.out).mono ?_); rintro e w' ⟨rfl, ⟨nd, rfl⟩⟩; refine ⟨_, rfl, ?_⟩; (try (rw [drewN_self w5]; generalize hq_ : World.drewN w5 _ = w5; have n0_ : Aside0 (w5.heap[gb154]? = some (.cells #[.int .u64 0, .int .u64 0] 30 (0, 0))) := ⟨by rw [← hq_]; exact (bZ BK154)⟩; have n1_ : Aside0 (Below w.heap.size w w5) := ⟨by rw [← hq_]; exact (lB HB)⟩; clear BK154 HB hq_; have BK154 := n0_; have HB := n1_; clear n0_ n1_; obtain ⟨hcy154_0, hcy154_1, hfy154_0, hfy154_1⟩ := bE2 BK154.out))) | ((with_reducible refine gate_callee (f := 103) rfl ?_); refine gL (some 6) Try.func103 #[.int .i64 a0] ?_; (with_reducible refine (prod_size.calls a0 t155 _ A3.out).mono ?_); rintro e w' ⟨rfl, ⟨nd, rfl⟩⟩; refine ⟨_, rfl, ?_⟩; (try (rw [drewN_self w5]; generalize hq_ : World.drewN w5 _ = w5; have n0_ : Aside0 (w5.heap[gb154]? = some (.cells #[.int .u64 0, .int .u64 0] 30 (0, 0))) := ⟨by rw [← hq_]; exact (bZ BK154)⟩; have n1_ : Aside0 (Below w.heap.size w w5) := ⟨by rw [← hq_]; exact (lB HB)⟩; clear BK154 HB hq_; have BK154 := n0_; have HB := n1_; clear n0_ n1_; obtain ⟨hcy154_0, hcy154_1, hfy154_0, hfy154_1⟩ := bE2 BK154.out))) | ((with_reducible refine gate_callee (f := 87) rfl ?_); refine gL (some 7) Try.func87 #[.int .u64 t155, .int .u64 t155] ?_; (with_reducible refine (prod_Mul.calls t155 t155 t157 t158 _ A4.out).mono ?_); rintro e w6 ⟨rfl, hb⟩; refine ⟨_, rfl, ?_⟩; replace BK154 := bY hb BK154; replace HB := aaM (lP (lB HB) hb); (try clear hb); (try clear hb2); (try clear hk); (try clear hi); obtain ⟨_, _, _, _⟩ := bE2 BK154.out))
 refine bodyPost_ret (results_cell_row rfl _ _ gb154 30 #[.int .u64 t157, .int .u64 t158] (0, 0) _ rfl (bZ BK154) Try.underlying30 rfl (by kernel_rfl)) rfl ?_
 exact ⟨eE, lB HB⟩

/-! ### spread_none: function 100 -/
def spread_none.f  : Option (Int × Int × Int) := some (0, 0, 0)
set_option maxHeartbeats 8000000 in
set_option maxRecDepth 100000 in
theorem spread_none.calls  (r1 : Int) (r2 : Int) (r3 : Int) (w : World) (h : spread_none.f  = some (r1, r2, r3)) :
  Calls Try.prog 100 #[] w fun e w' => e = .returned (.agg #[.int .i64 r1, .int .i64 r2, .int .i64 r3]) ∧ Below w.heap.size w w' := by
 have hu54 := Try.underlying54
 have HB := aaM (Below.refl w.heap.size w)
 have H : (some (0, 0, 0)) = some (r1, r2, r3) := h
 clear h
 simp only [Option.some.injEq, Prod.mk.injEq] at H
 obtain ⟨rfl, rfl, rfl⟩ := H
 go_enter Try.func100, Try.ntmps100
 go_wp2_with (first | ((with_reducible refine gate_dst (N := 0) rfl ?_); refine bxF w HB 0 #[.int .i64 0, .int .i64 0, .int .i64 0] 54 ?_; intro gb159 hg w1 hb BK159 HB GE159; have GW159 := GE159; clear hb hg; obtain ⟨_, _, _, _, _, _⟩ := bE3 BK159.out))
 refine bodyPost_ret (results_cell_row rfl _ _ gb159 54 #[.int .i64 0, .int .i64 0, .int .i64 0] (0, 0) _ rfl (bZ BK159) Try.underlying54 rfl (by kernel_rfl)) rfl ?_
 exact ⟨eE, lB HB⟩

/-! ### cmp_isNaN_uint64: function 62 -/
def cmp_isNaN_uint64.f (a0 : Int) : Option (Bool) := some (a0 != a0)
set_option maxHeartbeats 8000000 in
set_option maxRecDepth 100000 in
theorem cmp_isNaN_uint64.calls (a0 : Int) (r : Bool) (w : World) (h : cmp_isNaN_uint64.f a0 = some r) :
  Calls Try.prog 62 #[.int .u64 a0] w fun e w' => e = .returned (.bool r) ∧ Drawn0 w w' := by
 have H : (some (a0 != a0)) = some r := h
 clear h
 obtain rfl := Option.some.inj H
 go_enter Try.func62, Try.ntmps62
 go_wp2
 all_goals (go_ret; exact ⟨eF, by repeat (first | exact Drawn0.refl _ | apply Drawn0.step)⟩)

end Go.Proofs.Ytancajnbjmcamaa.QSplitTimes
