-- Written by a program of this session (wip/tools/mkprint.py over the kit's print); Lean checks it.
import Derived.Test.YtancajnbjmcamaaQSplitBestx0
namespace Go.Proofs.Ytancajnbjmcamaa.QSplitBest
open Go.RowKit Go.Proofs.YtancajnbjmcamaaW.PrintWords Go.Proofs.YtancajnbjmcamaaW.PrintLast Go.Proofs.YtancajnbjmcamaaW.PrintMore
attribute [local go_sem] max2_int min2_int max_two min_two max_three min_three max_four min_four   -- for this text's walks alone
set_option linter.unusedVariables false
set_option linter.unusedSimpArgs false

/-! ### prod_Plus: function 48 -/
def prod_Plus.f (a0 : Int) (a1 : Int) : Option (Int × Int) := if ((decide (a0 < 0)) == (decide (a1 < 0))) = true then (if ((decide ((wrap64 (a0 + a1)) < 0)) != (decide (a0 < 0))) = true then (some (0, 6)) else (some (wrap64 (a0 + a1), 0))) else (some (wrap64 (a0 + a1), 0))
set_option maxHeartbeats 8000000 in
set_option maxRecDepth 100000 in
theorem prod_Plus.calls (a0 : Int) (a1 : Int) (r1 : Int) (r2 : Int) (w : World) (h : prod_Plus.f a0 a1 = some (r1, r2)) :
  Calls Try.prog 48 #[.int .i64 a0, .int .i64 a1] w fun e w' => e = .returned (.tuple #[.int .i64 r1, .int .i64 r2]) ∧ Drawn0 w w' := by
 have H : (if ((decide (a0 < 0)) == (decide (a1 < 0))) = true then (if ((decide ((wrap64 (a0 + a1)) < 0)) != (decide (a0 < 0))) = true then (some (0, 6)) else (some (wrap64 (a0 + a1), 0))) else (some (wrap64 (a0 + a1), 0))) = some (r1, r2) := h
 clear h
 by_cases c3 : ((decide (a0 < 0)) == (decide (a1 < 0))) = true
 ·rw [if_pos c3] at H
  have c3b0 : ((decide (a0 < 0)) == (decide (a1 < 0))) = true := c3; (try (have c3b1 : decide ((decide (a0 < 0)) = (decide (a1 < 0))) = true := by simpa using c3)); (try (have c3b2 : ((decide (a0 < 0)) == (decide (a1 < 0))) = true := by simpa using c3)); clear c3
  by_cases c4 : ((decide ((wrap64 (a0 + a1)) < 0)) != (decide (a0 < 0))) = true
  ·rw [if_pos c4] at H
   have c4b0 : ((decide ((wrap64 (a0 + a1)) < 0)) != (decide (a0 < 0))) = true := c4; (try (have c4b1 : decide ((decide ((wrap64 (a0 + a1)) < 0)) = (decide (a0 < 0))) = false := by simpa using c4)); (try (have c4b2 : ((decide ((wrap64 (a0 + a1)) < 0)) == (decide (a0 < 0))) = false := by simpa using c4)); (try (have c4b3 : ¬ ((decide ((wrap64 (a0 + a1)) < 0)) = (decide (a0 < 0))) := by simpa using c4)); clear c4; simp only [Option.some.injEq, Prod.mk.injEq] at H; obtain ⟨rfl, rfl⟩ := H; go_enter Try.func48, Try.ntmps48; go_wp2
   all_goals (go_ret2; exact ⟨eF, by repeat (first | exact Drawn0.refl _ | apply Drawn0.step)⟩)
  ·rw [if_neg c4] at H
   have c4b0 : ((decide ((wrap64 (a0 + a1)) < 0)) != (decide (a0 < 0))) = false := by simpa using c4
   (try (have c4b1 : decide ((decide ((wrap64 (a0 + a1)) < 0)) = (decide (a0 < 0))) = true := by simpa using c4)); (try (have c4b2 : ((decide ((wrap64 (a0 + a1)) < 0)) == (decide (a0 < 0))) = true := by simpa using c4)); clear c4; simp only [Option.some.injEq, Prod.mk.injEq] at H; obtain ⟨rfl, rfl⟩ := H; go_enter Try.func48, Try.ntmps48; go_wp2
   all_goals (go_ret2; exact ⟨eF, by repeat (first | exact Drawn0.refl _ | apply Drawn0.step)⟩)
 ·rw [if_neg c3] at H
  have c3b0 : ((decide (a0 < 0)) == (decide (a1 < 0))) = false := by simpa using c3
  (try (have c3b1 : decide ((decide (a0 < 0)) = (decide (a1 < 0))) = false := by simpa using c3)); (try (have c3b2 : ((decide (a0 < 0)) == (decide (a1 < 0))) = false := by simpa using c3)); (try (have c3b3 : ¬ ((decide (a0 < 0)) = (decide (a1 < 0))) := by simpa using c3)); clear c3; simp only [Option.some.injEq, Prod.mk.injEq] at H; obtain ⟨rfl, rfl⟩ := H; go_enter Try.func48, Try.ntmps48; go_wp2
  all_goals (go_ret2; exact ⟨eF, by repeat (first | exact Drawn0.refl _ | apply Drawn0.step)⟩)

/-! ### hist_plus: function 50 -/
def hist_plus.f (a0 : Int) (a1 : Int) (a2 : Bool) : Option (Int × Int) := (prod_Plus.f a0 a1).bind fun bt101 => (some (bt101.1, bt101.2))
set_option maxHeartbeats 8000000 in
set_option maxRecDepth 100000 in
theorem hist_plus.calls (a0 : Int) (a1 : Int) (a2 : Bool) (r1 : Int) (r2 : Int) (w : World) (h : hist_plus.f a0 a1 a2 = some (r1, r2)) :
  Calls Try.prog 50 #[.int .i64 a0, .int .i64 a1, .bool a2] w fun e w' => e = .returned (.tuple #[.int .i64 r1, .int .i64 r2]) ∧ Drawn0 w w' := by
 have H : ((prod_Plus.f a0 a1).bind fun aa => (some (aa.1, aa.2))) = some (r1, r2) := h
 clear h
 replace H := ooB.mp H
 obtain ⟨⟨ab, ac⟩, ae, H⟩ := H
 (try dsimp only at H)
 have A4 := aaM ae
 clear ae
 simp only [Option.some.injEq, Prod.mk.injEq] at H
 obtain ⟨rfl, rfl⟩ := H
 go_enter Try.func50, Try.ntmps50
 go_wp2_with (first | ((with_reducible refine gate_callee (f := 48) rfl ?_); refine gL (some 10) Try.func48 #[.int .i64 a0, .int .i64 a1] ?_; (with_reducible refine (prod_Plus.calls a0 a1 ab ac _ A4.out).mono ?_); rintro e w' ⟨rfl, ⟨nd, rfl⟩⟩; refine ⟨_, rfl, ?_⟩))
 all_goals (go_ret2; exact ⟨eF, by repeat (first | exact Drawn0.refl _ | apply Drawn0.step)⟩)

/-! ### hist_moments_1: function 61 -/
section
variable {P : Program} {ops : Array Oper} {Q : Exit → Act → World → Prop}
/-- A call through a value that holds a closure. -/
theorem goesC_ {oi : Oper} {N : Option Tmp} {a : Act} {w : World} {K : Act → World → Prop} {f : FuncId} {fn : Func} {x : Operand} {as_ : Array Operand} {ts : Array TypeId} (hf : P.funcs[f]? = some fn) (hname : (fn.name == "runtime.NumGoroutine") = false) (hb : fn.body.isSome = true) (args cap all : Array Value) (hall : args ++ cap = all)
  (hw : Region.wanted oi (yielded ops a.tmps) = true) (hN : oi.dst = N) (hop : oi.op = .call { callee := .value x, args := as_, argTypes := ts }) (hx : a.eval x = .func (.func f) #[] cap) (hargs : as_.map a.eval = args)
  (h : Calls P f all w fun e w' => ∃ v, e = .returned v ∧ K (a.put N v) w') : if Region.wanted oi (yielded ops a.tmps) = true then Oper.wp P oi a w K Q else K (a.put N undef) w := by
 subst hall
 refine call_ f (args ++ cap) hw hN ?_ h
 have he := enters_ hf hname hb (args ++ cap) w
 unfold execOp
 simp [hop, resolve, hx, Deferred.ofValue, invoke, hargs, he]
theorem goesCL_ {rest : List Oper} {oi : Oper} {a : Act} {w : World} (N : Option Tmp) (hd : oi.dst = N) (hg : oi.guard = none) {f : FuncId} {fn : Func} {x : Operand} {as_ : Array Operand} {ts : Array TypeId} (hf : P.funcs[f]? = some fn) (hname : (fn.name == "runtime.NumGoroutine") = false) (hb : fn.body.isSome = true) (args cap all : Array Value) (hall : args ++ cap = all)
  (hop : oi.op = .call { callee := .value x, args := as_, argTypes := ts }) (hx : a.eval x = .func (.func f) #[] cap) (hargs : as_.map a.eval = args)
  (h : Calls P f all w fun e w' => ∃ v, e = .returned v ∧ wpList P ops Q rest (a.put N v) w') : wpList P ops Q (oi :: rest) a w := by
 subst hall
 refine wpList_plain hg fun K hK => ?_
 have he := enters_ hf hname hb (args ++ cap) w
 have hrun : (execOp a.eval oi).run P w = .ok (.enter f (args ++ cap)) w := by
  unfold execOp
  simp [hop, resolve, hx, Deferred.ofValue, invoke, hargs, he]
 unfold Oper.wp
 rw [hrun, Oper.upon_enter]
 refine h.mono fun e w'' hh => ?_
 obtain ⟨v, rfl, hk⟩ := hh
 subst hd
 exact hK _ _ hk
end
def hist_moments_1.f (a0_0 : Int) (a0_1 : Int) (a0_2 : Int) (a1_0 : Int) (a1_1 : Int) (a1_2 : Int) : Option (Int × Int × Int × Int) := (hist_plus.f a0_0 a1_0 false).bind fun bt107 => (if bt107.2 = 0 then ((hist_plus.f a0_1 a1_1 true).bind fun bt109 => (if bt109.2 = 0 then ((hist_plus.f a0_2 a1_2 false).bind fun bt111 => (if bt111.2 = 0 then (some (bt107.1, bt109.1, bt111.1, 0)) else (some (0, 0, 0, bt111.2)))) else (some (0, 0, 0, bt109.2)))) else (some (0, 0, 0, bt107.2)))
set_option maxHeartbeats 8000000 in
set_option maxRecDepth 100000 in
theorem hist_moments_1.calls (ae : Int) (ah : Int) (aj : Int) (af : Int) (ai : Int) (ak : Int) (r1 : Int) (r2 : Int) (r3 : Int) (r4 : Int) (gc : Nat) (w : World) (hgc_ : w.cell? ⟨gc, 0, none⟩ = some (.func (.func 50) #[] #[])) (h : hist_moments_1.f ae ah aj af ai ak = some (r1, r2, r3, r4)) :
  Calls Try.prog 61 #[.agg #[.int .i64 ae, .int .i64 ah, .int .i64 aj], .agg #[.int .i64 af, .int .i64 ai, .int .i64 ak], .pointer (some ⟨gc, 0, none⟩)] w fun e w' => e = .returned (.tuple #[.agg #[.int .i64 r1, .int .i64 r2, .int .i64 r3], .int .i64 r4]) ∧ Below w.heap.size w w' := by
 have cz := Try.underlying54
 have HB := aaM (Below.refl w.heap.size w)
 have HGC := aaM hgc_
 clear hgc_
 have H : ((hist_plus.f ae af false).bind fun bo => (if bo.2 = 0 then ((hist_plus.f ah ai true).bind fun a9 => (if a9.2 = 0 then ((hist_plus.f aj ak false).bind fun am => (if am.2 = 0 then (some (bo.1, a9.1, am.1, 0)) else (some (0, 0, 0, am.2)))) else (some (0, 0, 0, a9.2)))) else (some (0, 0, 0, bo.2)))) = some (r1, r2, r3, r4) := h
 clear h
 replace H := ooB.mp H
 obtain ⟨⟨a8, an⟩, cj, H⟩ := H
 (try dsimp only at H)
 have A3 := aaM cj
 clear cj
 by_cases c4 : an = 0
 ·rw [if_pos c4] at H
  have c4b0 : (an == 0) = true := beq_iff_eq.mpr c4; have c4b1 : (an != 0) = false := bne_eq_false_iff_eq.mpr c4; clear c4; replace H := ooB.mp H; obtain ⟨⟨bm, a2⟩, ck, H⟩ := H; (try dsimp only at H); have A5 := aaM ck; clear ck
  by_cases c6 : a2 = 0
  ·rw [if_pos c6] at H
   have c6b0 : (a2 == 0) = true := beq_iff_eq.mpr c6; have c6b1 : (a2 != 0) = false := bne_eq_false_iff_eq.mpr c6; clear c6; replace H := ooB.mp H; obtain ⟨⟨bn, a7⟩, cl, H⟩ := H; (try dsimp only at H); have A7 := aaM cl; clear cl
   by_cases c8 : a7 = 0
   ·rw [if_pos c8] at H
    have c8b0 : (a7 == 0) = true := beq_iff_eq.mpr c8; have c8b1 : (a7 != 0) = false := bne_eq_false_iff_eq.mpr c8; clear c8; simp only [Option.some.injEq, Prod.mk.injEq] at H; obtain ⟨rfl, rfl, rfl, rfl⟩ := H; go_enter Try.func61, Try.ntmps61
    go_wp2_with (first | ((with_reducible refine gate_dst (N := 3) rfl ?_); refine bxF w HB 3 #[.int .i64 ae, .int .i64 ah, .int .i64 aj] 54 ?_; intro ao hg w9 hb aa HB ap; have bp := ap; clear hb hg; have hgcc_gb103 : w9.cell? ⟨gc, 0, none⟩ = some (.func (.func 50) #[] #[]) := (HB.out.cell (World.block_lt_of_cell? w _ HGC.out)).trans HGC.out; have hgcn_gb103 : gc ≠ ao := Nat.ne_of_lt (Nat.lt_of_lt_of_le (World.block_lt_of_cell? w _ HGC.out) ap.out); have hgcm_gb103 := hgcn_gb103.symm) | ((with_reducible refine gate_dst (N := 4) rfl ?_); refine bxF w HB 4 #[.int .i64 af, .int .i64 ai, .int .i64 ak] 54 ?_; intro aq hg cm hb ab HB ar; have bq := ar; obtain ⟨ba, bb⟩ := nS hg aa; replace aa := bY hb aa; clear hb hg; have hgcc_gb104 : cm.cell? ⟨gc, 0, none⟩ = some (.func (.func 50) #[] #[]) := (HB.out.cell (World.block_lt_of_cell? w _ HGC.out)).trans HGC.out; have hgcn_gb104 : gc ≠ aq := Nat.ne_of_lt (Nat.lt_of_lt_of_le (World.block_lt_of_cell? w _ HGC.out) ar.out); have hgcm_gb104 := hgcn_gb104.symm) | ((with_reducible refine gate_dst (N := 5) rfl ?_); refine bxF w HB 5 #[.int .i64 0, .int .i64 0, .int .i64 0] 54 ?_; intro al hg cn hb ac HB au; have br := au; obtain ⟨bc, bd⟩ := nS hg aa; replace aa := bY hb aa; obtain ⟨be, bf⟩ := nS hg ab; replace ab := bY hb ab; clear hb hg; have hgcc_gb105 : cn.cell? ⟨gc, 0, none⟩ = some (.func (.func 50) #[] #[]) := (HB.out.cell (World.block_lt_of_cell? w _ HGC.out)).trans HGC.out; have hgcn_gb105 : gc ≠ al := Nat.ne_of_lt (Nat.lt_of_lt_of_le (World.block_lt_of_cell? w _ HGC.out) au.out); have hgcm_gb105 := hgcn_gb105.symm) | ((with_reducible refine gate_dst (N := 7) rfl ?_); refine bxF w HB 7 #[.int .i64 0, .int .i64 0, .int .i64 0] 54 ?_; intro av hg a3 hb ag HB aw; have bs := aw; obtain ⟨bg, bh⟩ := nS hg aa; replace aa := bY hb aa; obtain ⟨bi, bj⟩ := nS hg ab; replace ab := bY hb ab; obtain ⟨bk, bl⟩ := nS hg ac; replace ac := bY hb ac; clear hb hg; have hgcc_gb106 : a3.cell? ⟨gc, 0, none⟩ = some (.func (.func 50) #[] #[]) := (HB.out.cell (World.block_lt_of_cell? w _ HGC.out)).trans HGC.out; have hgcn_gb106 : gc ≠ av := Nat.ne_of_lt (Nat.lt_of_lt_of_le (World.block_lt_of_cell? w _ HGC.out) aw.out); have hgcm_gb106 := hgcn_gb106.symm; have := ba.out; have := bb.out; have := bc.out; have := bd.out; have := bg.out; have := bh.out; obtain ⟨_, _, _, _, _, _⟩ := bE3 aa.out; have := be.out; have := bf.out; have := bi.out; have := bj.out; obtain ⟨_, _, _, _, _, _⟩ := bE3 ab.out) | ((with_reducible refine gate_dst (N := 15) rfl ?_); refine goesCL_ (some 15) rfl rfl Try.func50 (by kernel_rfl) rfl #[.int .i64 ae, .int .i64 af, .bool false] #[] #[.int .i64 ae, .int .i64 af, .bool false] rfl rfl rfl mG ?_; (with_reducible refine (hist_plus.calls ae af false a8 an _ A3.out).mono ?_); rintro e w' ⟨rfl, ⟨nd, rfl⟩⟩; refine ⟨_, rfl, ?_⟩; (try (rw [drewN_self a3]; generalize hq_ : World.drewN a3 _ = a3; have ax : Aside0 (a3.heap[ao]? = some (.cells #[.int .i64 ae, .int .i64 ah, .int .i64 aj] 54 (0, 0))) := ⟨by rw [← hq_]; exact (bZ aa)⟩; have ay : Aside0 (a3.heap[aq]? = some (.cells #[.int .i64 af, .int .i64 ai, .int .i64 ak] 54 (0, 0))) := ⟨by rw [← hq_]; exact (bZ ab)⟩; have az : Aside0 (a3.heap[al]? = some (.cells #[.int .i64 0, .int .i64 0, .int .i64 0] 54 (0, 0))) := ⟨by rw [← hq_]; exact (bZ ac)⟩; have a0 : Aside0 (a3.heap[av]? = some (.cells #[.int .i64 0, .int .i64 0, .int .i64 0] 54 (0, 0))) := ⟨by rw [← hq_]; exact (bZ ag)⟩; have a1 : Aside0 (Below w.heap.size w a3) := ⟨by rw [← hq_]; exact (lB HB)⟩; clear aa ab ac ag HB hq_; have aa := ax; have ab := ay; have ac := az; have ag := a0; have HB := a1; clear ax ay az a0 a1; obtain ⟨bt, bu, bv, bw, bz, b0⟩ := bE3 aa.out; obtain ⟨b1, b2, b3, b4, b5, b6⟩ := bE3 ab.out; obtain ⟨b7, b8, b9, ca, cb, cc⟩ := bE3 ac.out; obtain ⟨cd, ce, cf, cg, ch, ci⟩ := bE3 ag.out; have hgcd_ : a3.cell? ⟨gc, 0, none⟩ = some (.func (.func 50) #[] #[]) := (HB.out.cell (World.block_lt_of_cell? w _ HGC.out)).trans HGC.out)); have := bl.out; have := bk.out; obtain ⟨_, _, _, _, _, _⟩ := bE3 ag.out) | ((with_reducible refine gate_dst (N := 29) rfl ?_); refine goesCL_ (some 29) rfl rfl Try.func50 (by kernel_rfl) rfl #[.int .i64 ah, .int .i64 ai, .bool true] #[] #[.int .i64 ah, .int .i64 ai, .bool true] rfl rfl rfl mG ?_; (with_reducible refine (hist_plus.calls ah ai true bm a2 _ A5.out).mono ?_); rintro e w' ⟨rfl, ⟨nd, rfl⟩⟩; refine ⟨_, rfl, ?_⟩) | ((with_reducible refine gate_dst (N := 43) rfl ?_); refine goesCL_ (some 43) rfl rfl Try.func50 (by kernel_rfl) rfl #[.int .i64 aj, .int .i64 ak, .bool false] #[] #[.int .i64 aj, .int .i64 ak, .bool false] rfl rfl rfl mG ?_; (with_reducible refine (hist_plus.calls aj ak false bn a7 _ A7.out).mono ?_); rintro e w' ⟨rfl, ⟨nd, rfl⟩⟩; refine ⟨_, rfl, ?_⟩; obtain ⟨_, _, _, _, _, _⟩ := bE3 ac.out))
    refine bodyPost_ret (results_ct rfl _ _ al 54 #[.int .i64 a8, .int .i64 bm, .int .i64 bn] (0, 0) _ rfl (bZ ac) Try.underlying54 rfl (by kernel_rfl)) rfl ?_
    exact ⟨eE, lB HB⟩
   ·rw [if_neg c8] at H
    have c8b0 : (a7 == 0) = false := beq_eq_false_iff_ne.mpr c8; have c8b1 : (a7 != 0) = true := bne_iff_ne.mpr c8; simp only [Option.some.injEq, Prod.mk.injEq] at H; obtain ⟨rfl, rfl, rfl, rfl⟩ := H; go_enter Try.func61, Try.ntmps61
    go_wp2_with (first | ((with_reducible refine gate_dst (N := 3) rfl ?_); refine bxF w HB 3 #[.int .i64 ae, .int .i64 ah, .int .i64 aj] 54 ?_; intro ao hg cp hb aa HB ap; have bp := ap; clear hb hg; have hgcc_gb103 : cp.cell? ⟨gc, 0, none⟩ = some (.func (.func 50) #[] #[]) := (HB.out.cell (World.block_lt_of_cell? w _ HGC.out)).trans HGC.out; have hgcn_gb103 : gc ≠ ao := Nat.ne_of_lt (Nat.lt_of_lt_of_le (World.block_lt_of_cell? w _ HGC.out) ap.out); have hgcm_gb103 := hgcn_gb103.symm) | ((with_reducible refine gate_dst (N := 4) rfl ?_); refine bxF w HB 4 #[.int .i64 af, .int .i64 ai, .int .i64 ak] 54 ?_; intro aq hg cq hb ab HB ar; have bq := ar; obtain ⟨ba, bb⟩ := nS hg aa; replace aa := bY hb aa; clear hb hg; have hgcc_gb104 : cq.cell? ⟨gc, 0, none⟩ = some (.func (.func 50) #[] #[]) := (HB.out.cell (World.block_lt_of_cell? w _ HGC.out)).trans HGC.out; have hgcn_gb104 : gc ≠ aq := Nat.ne_of_lt (Nat.lt_of_lt_of_le (World.block_lt_of_cell? w _ HGC.out) ar.out); have hgcm_gb104 := hgcn_gb104.symm) | ((with_reducible refine gate_dst (N := 5) rfl ?_); refine bxF w HB 5 #[.int .i64 0, .int .i64 0, .int .i64 0] 54 ?_; intro al hg cr hb ac HB au; have br := au; obtain ⟨bc, bd⟩ := nS hg aa; replace aa := bY hb aa; obtain ⟨be, bf⟩ := nS hg ab; replace ab := bY hb ab; clear hb hg; have hgcc_gb105 : cr.cell? ⟨gc, 0, none⟩ = some (.func (.func 50) #[] #[]) := (HB.out.cell (World.block_lt_of_cell? w _ HGC.out)).trans HGC.out; have hgcn_gb105 : gc ≠ al := Nat.ne_of_lt (Nat.lt_of_lt_of_le (World.block_lt_of_cell? w _ HGC.out) au.out); have hgcm_gb105 := hgcn_gb105.symm) | ((with_reducible refine gate_dst (N := 7) rfl ?_); refine bxF w HB 7 #[.int .i64 0, .int .i64 0, .int .i64 0] 54 ?_; intro av hg a4 hb ag HB aw; have bs := aw; obtain ⟨bg, bh⟩ := nS hg aa; replace aa := bY hb aa; obtain ⟨bi, bj⟩ := nS hg ab; replace ab := bY hb ab; obtain ⟨bk, bl⟩ := nS hg ac; replace ac := bY hb ac; clear hb hg; have hgcc_gb106 : a4.cell? ⟨gc, 0, none⟩ = some (.func (.func 50) #[] #[]) := (HB.out.cell (World.block_lt_of_cell? w _ HGC.out)).trans HGC.out; have hgcn_gb106 : gc ≠ av := Nat.ne_of_lt (Nat.lt_of_lt_of_le (World.block_lt_of_cell? w _ HGC.out) aw.out); have hgcm_gb106 := hgcn_gb106.symm; have := ba.out; have := bb.out; have := bc.out; have := bd.out; have := bg.out; have := bh.out; obtain ⟨_, _, _, _, _, _⟩ := bE3 aa.out; have := be.out; have := bf.out; have := bi.out; have := bj.out; obtain ⟨_, _, _, _, _, _⟩ := bE3 ab.out) | ((with_reducible refine gate_dst (N := 15) rfl ?_); refine goesCL_ (some 15) rfl rfl Try.func50 (by kernel_rfl) rfl #[.int .i64 ae, .int .i64 af, .bool false] #[] #[.int .i64 ae, .int .i64 af, .bool false] rfl rfl rfl mG ?_; (with_reducible refine (hist_plus.calls ae af false a8 an _ A3.out).mono ?_); rintro e w' ⟨rfl, ⟨nd, rfl⟩⟩; refine ⟨_, rfl, ?_⟩; (try (rw [drewN_self a4]; generalize hq_ : World.drewN a4 _ = a4; have ax : Aside0 (a4.heap[ao]? = some (.cells #[.int .i64 ae, .int .i64 ah, .int .i64 aj] 54 (0, 0))) := ⟨by rw [← hq_]; exact (bZ aa)⟩; have ay : Aside0 (a4.heap[aq]? = some (.cells #[.int .i64 af, .int .i64 ai, .int .i64 ak] 54 (0, 0))) := ⟨by rw [← hq_]; exact (bZ ab)⟩; have az : Aside0 (a4.heap[al]? = some (.cells #[.int .i64 0, .int .i64 0, .int .i64 0] 54 (0, 0))) := ⟨by rw [← hq_]; exact (bZ ac)⟩; have a0 : Aside0 (a4.heap[av]? = some (.cells #[.int .i64 0, .int .i64 0, .int .i64 0] 54 (0, 0))) := ⟨by rw [← hq_]; exact (bZ ag)⟩; have a1 : Aside0 (Below w.heap.size w a4) := ⟨by rw [← hq_]; exact (lB HB)⟩; clear aa ab ac ag HB hq_; have aa := ax; have ab := ay; have ac := az; have ag := a0; have HB := a1; clear ax ay az a0 a1; obtain ⟨bt, bu, bv, bw, bz, b0⟩ := bE3 aa.out; obtain ⟨b1, b2, b3, b4, b5, b6⟩ := bE3 ab.out; obtain ⟨b7, b8, b9, ca, cb, cc⟩ := bE3 ac.out; obtain ⟨cd, ce, cf, cg, ch, ci⟩ := bE3 ag.out; have hgcd_ : a4.cell? ⟨gc, 0, none⟩ = some (.func (.func 50) #[] #[]) := (HB.out.cell (World.block_lt_of_cell? w _ HGC.out)).trans HGC.out)); have := bl.out; have := bk.out; obtain ⟨_, _, _, _, _, _⟩ := bE3 ag.out) | ((with_reducible refine gate_dst (N := 29) rfl ?_); refine goesCL_ (some 29) rfl rfl Try.func50 (by kernel_rfl) rfl #[.int .i64 ah, .int .i64 ai, .bool true] #[] #[.int .i64 ah, .int .i64 ai, .bool true] rfl rfl rfl mG ?_; (with_reducible refine (hist_plus.calls ah ai true bm a2 _ A5.out).mono ?_); rintro e w' ⟨rfl, ⟨nd, rfl⟩⟩; refine ⟨_, rfl, ?_⟩) | ((with_reducible refine gate_dst (N := 43) rfl ?_); refine goesCL_ (some 43) rfl rfl Try.func50 (by kernel_rfl) rfl #[.int .i64 aj, .int .i64 ak, .bool false] #[] #[.int .i64 aj, .int .i64 ak, .bool false] rfl rfl rfl mG ?_; (with_reducible refine (hist_plus.calls aj ak false bn a7 _ A7.out).mono ?_); rintro e w' ⟨rfl, ⟨nd, rfl⟩⟩; refine ⟨_, rfl, ?_⟩; obtain ⟨_, _, _, _, _, _⟩ := bE3 ac.out))
    refine bodyPost_ret (results_ct rfl _ _ al 54 #[.int .i64 0, .int .i64 0, .int .i64 0] (0, 0) _ rfl (bZ ac) Try.underlying54 rfl (by kernel_rfl)) rfl ?_
    exact ⟨eE, lB HB⟩
  ·rw [if_neg c6] at H
   have c6b0 : (a2 == 0) = false := beq_eq_false_iff_ne.mpr c6; have c6b1 : (a2 != 0) = true := bne_iff_ne.mpr c6; simp only [Option.some.injEq, Prod.mk.injEq] at H; obtain ⟨rfl, rfl, rfl, rfl⟩ := H; go_enter Try.func61, Try.ntmps61
   go_wp2_with (first | ((with_reducible refine gate_dst (N := 3) rfl ?_); refine bxF w HB 3 #[.int .i64 ae, .int .i64 ah, .int .i64 aj] 54 ?_; intro ao hg ct hb aa HB ap; have bp := ap; clear hb hg; have hgcc_gb103 : ct.cell? ⟨gc, 0, none⟩ = some (.func (.func 50) #[] #[]) := (HB.out.cell (World.block_lt_of_cell? w _ HGC.out)).trans HGC.out; have hgcn_gb103 : gc ≠ ao := Nat.ne_of_lt (Nat.lt_of_lt_of_le (World.block_lt_of_cell? w _ HGC.out) ap.out); have hgcm_gb103 := hgcn_gb103.symm) | ((with_reducible refine gate_dst (N := 4) rfl ?_); refine bxF w HB 4 #[.int .i64 af, .int .i64 ai, .int .i64 ak] 54 ?_; intro aq hg cu hb ab HB ar; have bq := ar; obtain ⟨ba, bb⟩ := nS hg aa; replace aa := bY hb aa; clear hb hg; have hgcc_gb104 : cu.cell? ⟨gc, 0, none⟩ = some (.func (.func 50) #[] #[]) := (HB.out.cell (World.block_lt_of_cell? w _ HGC.out)).trans HGC.out; have hgcn_gb104 : gc ≠ aq := Nat.ne_of_lt (Nat.lt_of_lt_of_le (World.block_lt_of_cell? w _ HGC.out) ar.out); have hgcm_gb104 := hgcn_gb104.symm) | ((with_reducible refine gate_dst (N := 5) rfl ?_); refine bxF w HB 5 #[.int .i64 0, .int .i64 0, .int .i64 0] 54 ?_; intro al hg cv hb ac HB au; have br := au; obtain ⟨bc, bd⟩ := nS hg aa; replace aa := bY hb aa; obtain ⟨be, bf⟩ := nS hg ab; replace ab := bY hb ab; clear hb hg; have hgcc_gb105 : cv.cell? ⟨gc, 0, none⟩ = some (.func (.func 50) #[] #[]) := (HB.out.cell (World.block_lt_of_cell? w _ HGC.out)).trans HGC.out; have hgcn_gb105 : gc ≠ al := Nat.ne_of_lt (Nat.lt_of_lt_of_le (World.block_lt_of_cell? w _ HGC.out) au.out); have hgcm_gb105 := hgcn_gb105.symm) | ((with_reducible refine gate_dst (N := 7) rfl ?_); refine bxF w HB 7 #[.int .i64 0, .int .i64 0, .int .i64 0] 54 ?_; intro av hg a5 hb ag HB aw; have bs := aw; obtain ⟨bg, bh⟩ := nS hg aa; replace aa := bY hb aa; obtain ⟨bi, bj⟩ := nS hg ab; replace ab := bY hb ab; obtain ⟨bk, bl⟩ := nS hg ac; replace ac := bY hb ac; clear hb hg; have hgcc_gb106 : a5.cell? ⟨gc, 0, none⟩ = some (.func (.func 50) #[] #[]) := (HB.out.cell (World.block_lt_of_cell? w _ HGC.out)).trans HGC.out; have hgcn_gb106 : gc ≠ av := Nat.ne_of_lt (Nat.lt_of_lt_of_le (World.block_lt_of_cell? w _ HGC.out) aw.out); have hgcm_gb106 := hgcn_gb106.symm; have := ba.out; have := bb.out; have := bc.out; have := bd.out; have := bg.out; have := bh.out; obtain ⟨_, _, _, _, _, _⟩ := bE3 aa.out; have := be.out; have := bf.out; have := bi.out; have := bj.out; obtain ⟨_, _, _, _, _, _⟩ := bE3 ab.out) | ((with_reducible refine gate_dst (N := 15) rfl ?_); refine goesCL_ (some 15) rfl rfl Try.func50 (by kernel_rfl) rfl #[.int .i64 ae, .int .i64 af, .bool false] #[] #[.int .i64 ae, .int .i64 af, .bool false] rfl rfl rfl mG ?_; (with_reducible refine (hist_plus.calls ae af false a8 an _ A3.out).mono ?_); rintro e w' ⟨rfl, ⟨nd, rfl⟩⟩; refine ⟨_, rfl, ?_⟩; (try (rw [drewN_self a5]; generalize hq_ : World.drewN a5 _ = a5; have ax : Aside0 (a5.heap[ao]? = some (.cells #[.int .i64 ae, .int .i64 ah, .int .i64 aj] 54 (0, 0))) := ⟨by rw [← hq_]; exact (bZ aa)⟩; have ay : Aside0 (a5.heap[aq]? = some (.cells #[.int .i64 af, .int .i64 ai, .int .i64 ak] 54 (0, 0))) := ⟨by rw [← hq_]; exact (bZ ab)⟩; have az : Aside0 (a5.heap[al]? = some (.cells #[.int .i64 0, .int .i64 0, .int .i64 0] 54 (0, 0))) := ⟨by rw [← hq_]; exact (bZ ac)⟩; have a0 : Aside0 (a5.heap[av]? = some (.cells #[.int .i64 0, .int .i64 0, .int .i64 0] 54 (0, 0))) := ⟨by rw [← hq_]; exact (bZ ag)⟩; have a1 : Aside0 (Below w.heap.size w a5) := ⟨by rw [← hq_]; exact (lB HB)⟩; clear aa ab ac ag HB hq_; have aa := ax; have ab := ay; have ac := az; have ag := a0; have HB := a1; clear ax ay az a0 a1; obtain ⟨bt, bu, bv, bw, bz, b0⟩ := bE3 aa.out; obtain ⟨b1, b2, b3, b4, b5, b6⟩ := bE3 ab.out; obtain ⟨b7, b8, b9, ca, cb, cc⟩ := bE3 ac.out; obtain ⟨cd, ce, cf, cg, ch, ci⟩ := bE3 ag.out; have hgcd_ : a5.cell? ⟨gc, 0, none⟩ = some (.func (.func 50) #[] #[]) := (HB.out.cell (World.block_lt_of_cell? w _ HGC.out)).trans HGC.out)); have := bl.out; have := bk.out; obtain ⟨_, _, _, _, _, _⟩ := bE3 ag.out) | ((with_reducible refine gate_dst (N := 29) rfl ?_); refine goesCL_ (some 29) rfl rfl Try.func50 (by kernel_rfl) rfl #[.int .i64 ah, .int .i64 ai, .bool true] #[] #[.int .i64 ah, .int .i64 ai, .bool true] rfl rfl rfl mG ?_; (with_reducible refine (hist_plus.calls ah ai true bm a2 _ A5.out).mono ?_); rintro e w' ⟨rfl, ⟨nd, rfl⟩⟩; refine ⟨_, rfl, ?_⟩; obtain ⟨_, _, _, _, _, _⟩ := bE3 ac.out))
   refine bodyPost_ret (results_ct rfl _ _ al 54 #[.int .i64 0, .int .i64 0, .int .i64 0] (0, 0) _ rfl (bZ ac) Try.underlying54 rfl (by kernel_rfl)) rfl ?_
   exact ⟨eE, lB HB⟩
 ·rw [if_neg c4] at H
  have c4b0 : (an == 0) = false := beq_eq_false_iff_ne.mpr c4; have c4b1 : (an != 0) = true := bne_iff_ne.mpr c4; simp only [Option.some.injEq, Prod.mk.injEq] at H; obtain ⟨rfl, rfl, rfl, rfl⟩ := H; go_enter Try.func61, Try.ntmps61
  go_wp2_with (first | ((with_reducible refine gate_dst (N := 3) rfl ?_); refine bxF w HB 3 #[.int .i64 ae, .int .i64 ah, .int .i64 aj] 54 ?_; intro ao hg cw hb aa HB ap; have bp := ap; clear hb hg; have hgcc_gb103 : cw.cell? ⟨gc, 0, none⟩ = some (.func (.func 50) #[] #[]) := (HB.out.cell (World.block_lt_of_cell? w _ HGC.out)).trans HGC.out; have hgcn_gb103 : gc ≠ ao := Nat.ne_of_lt (Nat.lt_of_lt_of_le (World.block_lt_of_cell? w _ HGC.out) ap.out); have hgcm_gb103 := hgcn_gb103.symm) | ((with_reducible refine gate_dst (N := 4) rfl ?_); refine bxF w HB 4 #[.int .i64 af, .int .i64 ai, .int .i64 ak] 54 ?_; intro aq hg cx hb ab HB ar; have bq := ar; obtain ⟨ba, bb⟩ := nS hg aa; replace aa := bY hb aa; clear hb hg; have hgcc_gb104 : cx.cell? ⟨gc, 0, none⟩ = some (.func (.func 50) #[] #[]) := (HB.out.cell (World.block_lt_of_cell? w _ HGC.out)).trans HGC.out; have hgcn_gb104 : gc ≠ aq := Nat.ne_of_lt (Nat.lt_of_lt_of_le (World.block_lt_of_cell? w _ HGC.out) ar.out); have hgcm_gb104 := hgcn_gb104.symm) | ((with_reducible refine gate_dst (N := 5) rfl ?_); refine bxF w HB 5 #[.int .i64 0, .int .i64 0, .int .i64 0] 54 ?_; intro al hg cy hb ac HB au; have br := au; obtain ⟨bc, bd⟩ := nS hg aa; replace aa := bY hb aa; obtain ⟨be, bf⟩ := nS hg ab; replace ab := bY hb ab; clear hb hg; have hgcc_gb105 : cy.cell? ⟨gc, 0, none⟩ = some (.func (.func 50) #[] #[]) := (HB.out.cell (World.block_lt_of_cell? w _ HGC.out)).trans HGC.out; have hgcn_gb105 : gc ≠ al := Nat.ne_of_lt (Nat.lt_of_lt_of_le (World.block_lt_of_cell? w _ HGC.out) au.out); have hgcm_gb105 := hgcn_gb105.symm) | ((with_reducible refine gate_dst (N := 7) rfl ?_); refine bxF w HB 7 #[.int .i64 0, .int .i64 0, .int .i64 0] 54 ?_; intro av hg a6 hb ag HB aw; have bs := aw; obtain ⟨bg, bh⟩ := nS hg aa; replace aa := bY hb aa; obtain ⟨bi, bj⟩ := nS hg ab; replace ab := bY hb ab; obtain ⟨bk, bl⟩ := nS hg ac; replace ac := bY hb ac; clear hb hg; have hgcc_gb106 : a6.cell? ⟨gc, 0, none⟩ = some (.func (.func 50) #[] #[]) := (HB.out.cell (World.block_lt_of_cell? w _ HGC.out)).trans HGC.out; have hgcn_gb106 : gc ≠ av := Nat.ne_of_lt (Nat.lt_of_lt_of_le (World.block_lt_of_cell? w _ HGC.out) aw.out); have hgcm_gb106 := hgcn_gb106.symm; have := ba.out; have := bb.out; have := bc.out; have := bd.out; have := bg.out; have := bh.out; obtain ⟨_, _, _, _, _, _⟩ := bE3 aa.out; have := be.out; have := bf.out; have := bi.out; have := bj.out; obtain ⟨_, _, _, _, _, _⟩ := bE3 ab.out) | ((with_reducible refine gate_dst (N := 15) rfl ?_); refine goesCL_ (some 15) rfl rfl Try.func50 (by kernel_rfl) rfl #[.int .i64 ae, .int .i64 af, .bool false] #[] #[.int .i64 ae, .int .i64 af, .bool false] rfl rfl rfl mG ?_; (with_reducible refine (hist_plus.calls ae af false a8 an _ A3.out).mono ?_); rintro e w' ⟨rfl, ⟨nd, rfl⟩⟩; refine ⟨_, rfl, ?_⟩; (try (rw [drewN_self a6]; generalize hq_ : World.drewN a6 _ = a6; have ax : Aside0 (a6.heap[ao]? = some (.cells #[.int .i64 ae, .int .i64 ah, .int .i64 aj] 54 (0, 0))) := ⟨by rw [← hq_]; exact (bZ aa)⟩; have ay : Aside0 (a6.heap[aq]? = some (.cells #[.int .i64 af, .int .i64 ai, .int .i64 ak] 54 (0, 0))) := ⟨by rw [← hq_]; exact (bZ ab)⟩; have az : Aside0 (a6.heap[al]? = some (.cells #[.int .i64 0, .int .i64 0, .int .i64 0] 54 (0, 0))) := ⟨by rw [← hq_]; exact (bZ ac)⟩; have a0 : Aside0 (a6.heap[av]? = some (.cells #[.int .i64 0, .int .i64 0, .int .i64 0] 54 (0, 0))) := ⟨by rw [← hq_]; exact (bZ ag)⟩; have a1 : Aside0 (Below w.heap.size w a6) := ⟨by rw [← hq_]; exact (lB HB)⟩; clear aa ab ac ag HB hq_; have aa := ax; have ab := ay; have ac := az; have ag := a0; have HB := a1; clear ax ay az a0 a1; obtain ⟨bt, bu, bv, bw, bz, b0⟩ := bE3 aa.out; obtain ⟨b1, b2, b3, b4, b5, b6⟩ := bE3 ab.out; obtain ⟨b7, b8, b9, ca, cb, cc⟩ := bE3 ac.out; obtain ⟨cd, ce, cf, cg, ch, ci⟩ := bE3 ag.out; have hgcd_ : a6.cell? ⟨gc, 0, none⟩ = some (.func (.func 50) #[] #[]) := (HB.out.cell (World.block_lt_of_cell? w _ HGC.out)).trans HGC.out)); have := bl.out; have := bk.out; obtain ⟨_, _, _, _, _, _⟩ := bE3 ag.out; obtain ⟨_, _, _, _, _, _⟩ := bE3 ac.out))
  refine bodyPost_ret (results_ct rfl _ _ al 54 #[.int .i64 0, .int .i64 0, .int .i64 0] (0, 0) _ rfl (bZ ac) Try.underlying54 rfl (by kernel_rfl)) rfl ?_
  exact ⟨eE, lB HB⟩

/-! ### gini_May: function 83 -/
mutual
def gini_May.j0 : Nat → List Int → Bool → Option (Bool)
 | 0, _, _ => none
 | k + 1, x0, x13 => if x13 = true then (some false) else (gini_May.l0 k 0 x0 (x0.length : Int) 0)
def gini_May.l0 : Nat → Int → List Int → Int → Int → Option (Bool)
 | 0, _, _, _, _ => none
 | k + 1, x3, x14, x15, x16 => if x16 < x15 then (if 0 ≤ x16 then (if x16 < (x14.length : Int) then (if (rd x14 x16) < 0 then (some false) else (if (rd x14 x16) > 1048576 then (some false) else (gini_May.l0 k (wrap64 (x3 + (rd x14 x16))) x14 x15 (wrap64 (x16 + 1))))) else (none)) else (none)) else (some (decide (x3 ≤ 1048576)))
end
def gini_May.f (k : Nat) (l0 : List Int) : Option (Bool) := if (l0.length : Int) < 2 then (gini_May.j0 k l0 true) else (gini_May.j0 k l0 (decide ((l0.length : Int) > 256)))
theorem gini_May.mono_l : ∀ k, (∀ y0 y1, LeO (gini_May.j0 k y0 y1) (gini_May.j0 (k + 1) y0 y1)) ∧ (∀ y0 y1 y2 y3, LeO (gini_May.l0 k y0 y1 y2 y3) (gini_May.l0 (k + 1) y0 y1 y2 y3))
 | 0 => ⟨fun _ _ r h => by simp [gini_May.j0] at h, fun _ _ _ _ r h => by simp [gini_May.l0] at h⟩
 | k + 1 => by
  obtain ⟨ih0, ih1⟩ := gini_May.mono_l k
  refine ⟨?_, ?_⟩
  all_goals (intros; first | unfold gini_May.j0 | unfold gini_May.l0)
  all_goals with_reducible repeat' first | apply ih0 | apply ih1 | apply LeO.refl | apply LeO.none | refine LeO.ite ?_ ?_ | refine LeO.bind ?_ (fun _ => ?_)
theorem gini_May.mono : ∀ a0 k, LeO (gini_May.f k a0) (gini_May.f (k + 1) a0) := by
 intro a0 k
 obtain ⟨ih0, ih1⟩ := gini_May.mono_l k
 unfold gini_May.f
 with_reducible repeat' first | apply ih0 | apply ih1 | apply LeO.refl | apply LeO.none | refine LeO.ite ?_ ?_ | refine LeO.bind ?_ (fun _ => ?_)
set_option maxHeartbeats 8000000 in
set_option maxRecDepth 100000 in
theorem gini_May.calls (k : Nat) (A0 : Option Addr) (c0 : Nat) (l0 : List Int) (r : Bool) (w : World) (ak : Kd.C (Kd.int .i64) w A0 l0.length l0) (al : l0.length ≤ c0) (h : gini_May.f k l0 = some r) :
  Calls Try.prog 83 #[.slice A0 l0.length c0] w fun e w' => e = .returned (.bool r) ∧ Drawn0 w w' := by
 have ah := aaM ak
 have au := aaM al
 clear ak al
 have H : (if (l0.length : Int) < 2 then (gini_May.j0 k l0 true) else (gini_May.j0 k l0 (decide ((l0.length : Int) > 256)))) = some r := h
 clear h
 have ai := aaM H
 clear H
 go_enter Try.func83, Try.ntmps83
 go_upto_region 1 with (fail)
 go_cut [13] (fun aq wc => ∃ (kq : Nat) (af : Bool), aq = .bool af ∧ Aside0 (gini_May.j0 kq l0 af = some r) ∧ Aside0 (kq ≤ k) ∧ Drawn0 w wc)
 case first =>
  have H := ai.out; clear ai
  by_cases c3 : (l0.length : Int) < 2
  ·rw [if_pos c3] at H
   have c3b0 : decide ((l0.length : Int) < 2) = true := decide_eq_true c3; have c3b1 : decide (l0.length < 2) = true := decide_eq_true (by omega); clear c3; (first | rw [c3b0] | (simp only [i64_w, i32_w]; rw [c3b0]) | skip); have H' := aaM H; clear H; go_wp2
   go_meet
   case rel => exact ⟨_, (true), (eF), H', ⟨by first | omega | exact Nat.le_refl _⟩, by repeat (first | exact Drawn0.refl _ | apply Drawn0.step)⟩
  ·rw [if_neg c3] at H
   have c3b0 : decide ((l0.length : Int) < 2) = false := decide_eq_false c3; have c3b1 : decide (l0.length < 2) = false := decide_eq_false (by omega); clear c3; (first | rw [c3b0] | (simp only [i64_w, i32_w]; rw [c3b0]) | skip); have H' := aaM H; clear H; go_wp2
   go_meet
   case rel => exact ⟨_, (decide ((l0.length : Int) > 256)), (eF), H', ⟨by first | omega | exact Nat.le_refl _⟩, by repeat (first | exact Drawn0.refl _ | apply Drawn0.step)⟩
 case rest =>
  clear ai; obtain ⟨kq, af, rfl, HA, am, ⟨av, rfl⟩⟩ := hcut
  cases kq with
  | zero => exact absurd HA.out (by simp [gini_May.j0])
  | succ aj =>
   have H := HA.out; clear HA; simp only [gini_May.j0] at H
   by_cases c4 : af = true
   ·subst c4
    have H1 : (some false) = some r := by rw [if_pos rfl] at H; exact H
    clear H; have H := H1; clear H1; obtain rfl := Option.some.inj H; go_wp2
    all_goals (go_ret; exact ⟨eF, by repeat (first | exact Drawn0.refl _ | apply Drawn0.step)⟩)
   ·replace c4 := Bool.eq_false_iff.mpr c4
    subst c4
    have H1 : (gini_May.l0 aj 0 l0 (l0.length : Int) 0) = some r := by rw [if_neg (show ¬ (false = true) by decide)] at H; exact H
    clear H; have H := H1; clear H1; have H' := aaM H; clear H; go_wp2
    go_loopg [3, 16] aj (fun kq v3 ar w' => ∃ (ag : Int) (aa : Int), v3 = .int .i64 ag ∧ ar = .int .i64 aa ∧ Aside0 (gini_May.l0 kq ag l0 (l0.length : Int) aa = some r) ∧ Aside0 (kq ≤ aj) ∧ Drawn0 w w')
    case atStart => exact ⟨(0), (0), (eF), (eF), H', ⟨Nat.le_refl _⟩, by repeat (first | exact Drawn0.refl _ | apply Drawn0.step)⟩
    case round =>
     clear H'; (try clear c4); obtain ⟨ag, aa, rfl, rfl, HA, an, ⟨m2, rfl⟩⟩ := hrel
     cases gk with
     | zero => exact absurd HA.out (by simp [gini_May.l0])
     | succ k2 =>
      have H := HA.out; clear HA; simp only [gini_May.l0] at H
      by_cases c5 : aa < (l0.length : Int)
      ·rw [if_pos c5] at H
       have c5b0 : decide (aa < (l0.length : Int)) = true := decide_eq_true c5; clear c5
       by_cases c6 : 0 ≤ aa
       ·rw [if_pos c6] at H
        have c6b0 : decide (0 ≤ aa) = true := decide_eq_true c6; clear c6
        by_cases c7 : aa < (l0.length : Int)
        ·rw [if_pos c7] at H
         have c7b0 : decide (aa < (l0.length : Int)) = true := decide_eq_true c7; clear c7
         by_cases c8 : (rd l0 aa) < 0
         ·rw [if_pos c8] at H
          have c8b0 : decide ((rd l0 aa) < 0) = true := decide_eq_true c8; clear c8; obtain rfl := Option.some.inj H; have ab : 0 ≤ (aa : Int) := of_decide_eq_true (by first | (with_reducible assumption) | assumption); have ac : aa < (l0.length : Int) := of_decide_eq_true (by first | (with_reducible assumption) | assumption); obtain ⟨ao, ae, ap⟩ := Kd.at_int ah.out aa ab ac
          cases ae
          replace ab := eq_true ab; replace ac := eq_true ac; go_wp2
          all_goals (go_ret; exact ⟨eF, by repeat (first | exact Drawn0.refl _ | apply Drawn0.step)⟩)
         ·rw [if_neg c8] at H
          have c8b0 : decide ((rd l0 aa) < 0) = false := decide_eq_false c8; clear c8
          by_cases c9 : (rd l0 aa) > 1048576
          ·rw [if_pos c9] at H
           have c9b0 : decide (1048576 < (rd l0 aa)) = true := decide_eq_true c9; clear c9; obtain rfl := Option.some.inj H; have ab : 0 ≤ (aa : Int) := of_decide_eq_true (by first | (with_reducible assumption) | assumption); have ac : aa < (l0.length : Int) := of_decide_eq_true (by first | (with_reducible assumption) | assumption); obtain ⟨ao, ae, ap⟩ := Kd.at_int ah.out aa ab ac
           cases ae
           replace ab := eq_true ab; replace ac := eq_true ac; go_wp2
           all_goals (go_ret; exact ⟨eF, by repeat (first | exact Drawn0.refl _ | apply Drawn0.step)⟩)
          ·rw [if_neg c9] at H
           have c9b0 : decide (1048576 < (rd l0 aa)) = false := decide_eq_false c9; clear c9; have H' := aaM H; clear H; have ab : 0 ≤ (aa : Int) := of_decide_eq_true (by first | (with_reducible assumption) | assumption); have ac : aa < (l0.length : Int) := of_decide_eq_true (by first | (with_reducible assumption) | assumption); obtain ⟨ao, ae, ap⟩ := Kd.at_int ah.out aa ab ac
           cases ae
           replace ab := eq_true ab; replace ac := eq_true ac; go_wp2
           go_roundg k2
           case measure => have := am.out; have := an.out; omega
           case rel => exact ⟨(wrap64 (ag + (rd l0 aa))), (wrap64 (aa + 1)), (eF), (eF), H', ⟨by have := am.out; have := an.out; omega⟩, by repeat (first | exact Drawn0.refl _ | apply Drawn0.step)⟩
        ·rw [if_neg c7] at H
         exact absurd H (by simp)
       ·rw [if_neg c6] at H
        exact absurd H (by simp)
      ·rw [if_neg c5] at H
       have c5b0 : decide (aa < (l0.length : Int)) = false := decide_eq_false c5; clear c5; obtain rfl := Option.some.inj H; go_wp2
       all_goals (go_ret; exact ⟨eF, by repeat (first | exact Drawn0.refl _ | apply Drawn0.step)⟩)

-- NOT PRINTED: function 88 (gini_sum)

/-! ### gini_total: function 84 -/
def gini_total.g (x : Int) : Int := x
def gini_total.s (l : List Int) : Int := l.foldl (fun acc x => IntKind.u64.wrap (acc + gini_total.g (IntKind.u64.wrap x))) 0
def gini_total.f (l : List Int) : Option Int := if l.length ≤ 9223372036854775807 then some (gini_total.s l) else none
theorem gini_total.s_snoc (l : List Int) (k : Nat) (h : k < l.length) : gini_total.s (l.take (k + 1)) = IntKind.u64.wrap (gini_total.s (l.take k) + gini_total.g (IntKind.u64.wrap (rd l (k : Int)))) := by
 unfold gini_total.s
 rw [List.take_succ_eq_append_getElem h, List.foldl_append]
 simp [rd, List.getD, h]
set_option maxHeartbeats 8000000 in
set_option maxRecDepth 100000 in
theorem gini_total.calls (A0 : Option Addr) (c0 : Nat) (l0 : List Int) (r : Int) (w : World) (ac : Kd.C (Kd.int .i64) w A0 l0.length l0) (ae : l0.length ≤ c0) (h : gini_total.f l0 = some r) :
  Calls Try.prog 84 #[.slice A0 l0.length c0] w fun e w' => e = .returned (.int .u64 r) ∧ Drawn0 w w' := by
 have af := aaM ac
 have ag := aaM ae
 have hl_ : l0.length ≤ 9223372036854775807 ∧ gini_total.s l0 = r := by
  unfold gini_total.f at h; split at h
  ·exact ⟨by assumption, Option.some.inj h⟩
  ·cases h
 obtain ⟨hlen, rfl⟩ := hl_
 have HLEN := aaM hlen
 clear ac ae hlen h
 go_enter Try.func84, Try.ntmps84
 go_wp2
 go_loopw [5, 10] (fun v5 ab w' => ∃ x5 aa : Int, v5 = .int .u64 x5 ∧ ab = .int .i64 aa ∧ Aside0 (0 ≤ aa ∧ aa ≤ (l0.length : Int) ∧ x5 = gini_total.s (l0.take aa.toNat)) ∧ Drawn0 w w') (fun _ ab _ => l0.length - (intOf ab).toNat)
 case atStart => exact ⟨0, 0, rfl, rfl, ⟨by omega, by omega, rfl⟩, Drawn0.refl _⟩
 case round =>
  obtain ⟨x5, aa, rfl, rfl, HK, ⟨m1, rfl⟩⟩ := hrel
  by_cases hlt : aa < (l0.length : Int)
  ·have HN : Aside0 (IntKind.u64.wrap (x5 + gini_total.g (IntKind.u64.wrap (rd l0 aa))) = gini_total.s (l0.take (aa + 1).toNat)) := ⟨by
    obtain ⟨h0, h1, h2⟩ := HK.out; obtain ⟨k, rfl⟩ := Int.eq_ofNat_of_zero_le h0; rw [show ((k : Int) + 1).toNat = k + 1 by omega, gini_total.s_snoc l0 k (by omega), h2]; rfl⟩
   have hltb : decide (aa < (l0.length : Int)) = true := decide_eq_true hlt; have ah : decide (0 ≤ aa) = true := decide_eq_true HK.out.1; have HM : Aside0 (wrap64 (aa + 1) = aa + 1) := ⟨by have := HLEN.out; have := HK.out; unfold wrap64; omega⟩; have HLT := aaM hlt; obtain ⟨ad, e, hx⟩ := Kd.at_int af.out aa HK.out.1 hlt
   cases e
   have p1 := eq_true HK.out.1; have q1 := eq_true hlt; clear hlt; go_wp2
   go_roundw
   case rel => exact ⟨_, _, rfl, rfl, ⟨by rw [HM.out]; have := HK.out; omega, by rw [HM.out]; have := HLT.out; omega, by rw [HM.out]; exact HN.out⟩, by repeat (first | exact Drawn0.refl _ | apply Drawn0.step)⟩
   case measure => have := HK.out; have := HLT.out; have := HM.out; simp only [intOf]; first | omega | (simp [intOf]; omega)
  ·have HE := aaM (show aa = (l0.length : Int) by have := HK.out; omega)
   have HX : Aside0 (x5 = gini_total.s l0) := ⟨by have := HK.out.2.2; rw [HE.out, Int.toNat_natCast, List.take_length] at this; exact this⟩; have hltb : decide (aa < (l0.length : Int)) = false := decide_eq_false hlt; clear hlt; go_wp2; go_ret
   exact ⟨by rw [← HX.out]; rfl, by repeat (first | exact Drawn0.refl _ | apply Drawn0.step)⟩


/-! ### gini_squares: function 85 -/
def gini_squares.g (x : Int) : Int := IntKind.u64.wrap (x * x)
def gini_squares.s (l : List Int) : Int := l.foldl (fun acc x => IntKind.u64.wrap (acc + gini_squares.g (IntKind.u64.wrap x))) 0
def gini_squares.f (l : List Int) : Option Int := if l.length ≤ 9223372036854775807 then some (gini_squares.s l) else none
theorem gini_squares.s_snoc (l : List Int) (k : Nat) (h : k < l.length) : gini_squares.s (l.take (k + 1)) = IntKind.u64.wrap (gini_squares.s (l.take k) + gini_squares.g (IntKind.u64.wrap (rd l (k : Int)))) := by
 unfold gini_squares.s
 rw [List.take_succ_eq_append_getElem h, List.foldl_append]
 simp [rd, List.getD, h]
set_option maxHeartbeats 8000000 in
set_option maxRecDepth 100000 in
theorem gini_squares.calls (A0 : Option Addr) (c0 : Nat) (l0 : List Int) (r : Int) (w : World) (ac : Kd.C (Kd.int .i64) w A0 l0.length l0) (ae : l0.length ≤ c0) (h : gini_squares.f l0 = some r) :
  Calls Try.prog 85 #[.slice A0 l0.length c0] w fun e w' => e = .returned (.int .u64 r) ∧ Drawn0 w w' := by
 have af := aaM ac
 have ag := aaM ae
 have hl_ : l0.length ≤ 9223372036854775807 ∧ gini_squares.s l0 = r := by
  unfold gini_squares.f at h; split at h
  ·exact ⟨by assumption, Option.some.inj h⟩
  ·cases h
 obtain ⟨hlen, rfl⟩ := hl_
 have HLEN := aaM hlen
 clear ac ae hlen h
 go_enter Try.func85, Try.ntmps85
 go_wp2
 go_loopw [5, 10] (fun v5 ab w' => ∃ x5 aa : Int, v5 = .int .u64 x5 ∧ ab = .int .i64 aa ∧ Aside0 (0 ≤ aa ∧ aa ≤ (l0.length : Int) ∧ x5 = gini_squares.s (l0.take aa.toNat)) ∧ Drawn0 w w') (fun _ ab _ => l0.length - (intOf ab).toNat)
 case atStart => exact ⟨0, 0, rfl, rfl, ⟨by omega, by omega, rfl⟩, Drawn0.refl _⟩
 case round =>
  obtain ⟨x5, aa, rfl, rfl, HK, ⟨m1, rfl⟩⟩ := hrel
  by_cases hlt : aa < (l0.length : Int)
  ·have HN : Aside0 (IntKind.u64.wrap (x5 + gini_squares.g (IntKind.u64.wrap (rd l0 aa))) = gini_squares.s (l0.take (aa + 1).toNat)) := ⟨by
    obtain ⟨h0, h1, h2⟩ := HK.out; obtain ⟨k, rfl⟩ := Int.eq_ofNat_of_zero_le h0; rw [show ((k : Int) + 1).toNat = k + 1 by omega, gini_squares.s_snoc l0 k (by omega), h2]; rfl⟩
   have hltb : decide (aa < (l0.length : Int)) = true := decide_eq_true hlt; have ah : decide (0 ≤ aa) = true := decide_eq_true HK.out.1; have HM : Aside0 (wrap64 (aa + 1) = aa + 1) := ⟨by have := HLEN.out; have := HK.out; unfold wrap64; omega⟩; have HLT := aaM hlt; obtain ⟨ad, e, hx⟩ := Kd.at_int af.out aa HK.out.1 hlt
   cases e
   have p1 := eq_true HK.out.1; have q1 := eq_true hlt; clear hlt; go_wp2
   go_roundw
   case rel => exact ⟨_, _, rfl, rfl, ⟨by rw [HM.out]; have := HK.out; omega, by rw [HM.out]; have := HLT.out; omega, by rw [HM.out]; exact HN.out⟩, by repeat (first | exact Drawn0.refl _ | apply Drawn0.step)⟩
   case measure => have := HK.out; have := HLT.out; have := HM.out; simp only [intOf]; first | omega | (simp [intOf]; omega)
  ·have HE := aaM (show aa = (l0.length : Int) by have := HK.out; omega)
   have HX : Aside0 (x5 = gini_squares.s l0) := ⟨by have := HK.out.2.2; rw [HE.out, Int.toNat_natCast, List.take_length] at this; exact this⟩; have hltb : decide (aa < (l0.length : Int)) = false := decide_eq_false hlt; clear hlt; go_wp2; go_ret
   exact ⟨by rw [← HX.out]; rfl, by repeat (first | exact Drawn0.refl _ | apply Drawn0.step)⟩


/-! ### gini_Alone: function 81 -/
def gini_Alone.j0 : Nat → List Int → Bool → Option (Int × Int × Int)
 | 0, _, _ => none
 | k + 1, x0, x10 => if x10 = true then (some (0, 0, 0)) else ((gini_squares.f x0).bind fun t117 => ((gini_total.f x0).bind fun t118 => (some (0, t117, t118))))
def gini_Alone.f (k : Nat) (l0 : List Int) : Option (Int × Int × Int) := (gini_May.f k l0).bind fun t115 => (if t115 = true then ((gini_total.f l0).bind fun t116 => (gini_Alone.j0 k l0 (t116 == 0))) else (gini_Alone.j0 k l0 true))
theorem gini_Alone.mono_l : ∀ k, (∀ y0 y1, LeO (gini_Alone.j0 k y0 y1) (gini_Alone.j0 (k + 1) y0 y1))
 | 0 => fun _ _ r h => by simp [gini_Alone.j0] at h
 | k + 1 => by
  have ih0 := gini_Alone.mono_l k
  ·intro y0 y1
   unfold gini_Alone.j0
   with_reducible repeat' first | apply ih0 | apply gini_May.mono | apply LeO.refl | apply LeO.none | refine LeO.ite ?_ ?_ | refine LeO.bind ?_ (fun _ => ?_)
theorem gini_Alone.mono : ∀ a0 k, LeO (gini_Alone.f k a0) (gini_Alone.f (k + 1) a0) := by
 intro a0 k
 have ih0 := gini_Alone.mono_l k
 unfold gini_Alone.f
 with_reducible repeat' first | apply ih0 | apply gini_May.mono | apply LeO.refl | apply LeO.none | refine LeO.ite ?_ ?_ | refine LeO.bind ?_ (fun _ => ?_)
set_option maxHeartbeats 8000000 in
set_option maxRecDepth 100000 in
theorem gini_Alone.calls (k : Nat) (A0 : Option Addr) (c0 : Nat) (l0 : List Int) (r1 : Int) (r2 : Int) (r3 : Int) (w : World) (an : Kd.C (Kd.int .i64) w A0 l0.length l0) (ao : l0.length ≤ c0) (h : gini_Alone.f k l0 = some (r1, r2, r3)) :
  Calls Try.prog 81 #[.slice A0 l0.length c0] w fun e w' => e = .returned (.agg #[.int .u64 r1, .int .u64 r2, .int .u64 r3]) ∧ Below w.heap.size w w' := by
 have ay := Try.underlying32
 have az := Try.underlying30
 have af := aaM an
 have ag := aaM ao
 clear an ao
 have HB := aaM (Below.refl w.heap.size w)
 have H : ((gini_May.f k l0).bind fun ak => (if ak = true then ((gini_total.f l0).bind fun ab => (gini_Alone.j0 k l0 (ab == 0))) else (gini_Alone.j0 k l0 true))) = some (r1, r2, r3) := h
 clear h
 have am := aaM H
 clear H
 go_enter Try.func81, Try.ntmps81
 go_upto_region 1 with (first | ((with_reducible refine gate_dst (N := 2) rfl ?_); refine bxF w HB 2 #[.int .u64 0, .int .u64 0, .int .u64 0] 32 ?_; intro ah hg w3 hb aa HB av; have a0 := av; clear hb hg))
 (try simp only [Act.put, ssB, ssZ, ssS])
 go_cut [10] (fun aw wc => ∃ (kq : Nat) (al : Bool), aw = .bool al ∧ Aside0 (gini_Alone.j0 kq l0 al = some (r1, r2, r3)) ∧ Aside0 (kq ≤ k) ∧ Aside0 (wc.heap[ah]? = some (.cells #[.int .u64 0, .int .u64 0, .int .u64 0] 32 (0, 0))) ∧ Aside0 (Below w.heap.size w wc))
 case first =>
  have H := am.out; clear am; replace H := ooB.mp H; obtain ⟨ak, ap, H⟩ := H; (try dsimp only at H); have A4 := aaM ap; clear ap
  by_cases c5 : ak = true
  ·subst c5
   have H1 : ((gini_total.f l0).bind fun ab => (gini_Alone.j0 k l0 (ab == 0))) = some (r1, r2, r3) := by rw [if_pos rfl] at H; exact H
   clear H; have H := H1; clear H1; replace H := ooB.mp H; obtain ⟨ab, aq, H⟩ := H; (try dsimp only at H); have A6 := aaM aq; clear aq; have H' := aaM H; clear H
   go_wp2_with (first | ((with_reducible refine gate_callee (f := 83) rfl ?_); refine gL (some 4) Try.func83 #[.slice A0 l0.length c0] ?_; (with_reducible refine (gini_May.calls k _ _ l0 true _ ?side1 ?side2 A4.out).mono ?_); (case side1 => exact cZ (ccB af.out HB.out)); (case side2 => exact ag.out); rintro e w' ⟨rfl, ⟨nd, rfl⟩⟩; refine ⟨_, rfl, ?_⟩) | (go_at_call 84; (with_reducible refine (gini_total.calls _ _ l0 ab _ ?side1 ?side2 A6.out).mono ?_); (case side1 => exact cZ (ccB af.out (lB HB))); (case side2 => exact ag.out); rintro e w' ⟨rfl, ⟨nd, rfl⟩⟩))
   go_meet
   case rel => exact ⟨_, ((ab == 0)), (eF), H', ⟨by first | omega | exact Nat.le_refl _⟩, ⟨bZ aa⟩, ⟨lB HB⟩⟩
  ·replace c5 := Bool.eq_false_iff.mpr c5
   subst c5
   have H1 : (gini_Alone.j0 k l0 true) = some (r1, r2, r3) := by rw [if_neg (show ¬ (false = true) by decide)] at H; exact H
   clear H; have H := H1; clear H1; have H' := aaM H; clear H
   go_wp2_with (first | ((with_reducible refine gate_callee (f := 83) rfl ?_); refine gL (some 4) Try.func83 #[.slice A0 l0.length c0] ?_; (with_reducible refine (gini_May.calls k _ _ l0 false _ ?side1 ?side2 A4.out).mono ?_); (case side1 => exact cZ (ccB af.out HB.out)); (case side2 => exact ag.out); rintro e w' ⟨rfl, ⟨nd, rfl⟩⟩; refine ⟨_, rfl, ?_⟩))
   go_meet
   case rel => exact ⟨_, (true), (eF), H', ⟨by first | omega | exact Nat.le_refl _⟩, ⟨bZ aa⟩, ⟨lB HB⟩⟩
 case rest =>
  clear am; obtain ⟨kq, al, rfl, HA, a1, aa, HB⟩ := hcut
  cases kq with
  | zero => exact absurd HA.out (by simp [gini_Alone.j0])
  | succ a2 =>
   have H := HA.out; clear HA; simp only [gini_Alone.j0] at H
   by_cases c7 : al = true
   ·subst c7
    have H1 : (some (0, 0, 0)) = some (r1, r2, r3) := by rw [if_pos rfl] at H; exact H
    clear H; have H := H1; clear H1; simp only [Option.some.injEq, Prod.mk.injEq] at H; obtain ⟨rfl, rfl, rfl⟩ := H; obtain ⟨_, _, _, _, _, _⟩ := bE3 aa.out; go_wp2; refine bodyPost_ret (results_cell_row rfl _ _ ah 32 #[.int .u64 0, .int .u64 0, .int .u64 0] (0, 0) _ rfl (bZ aa) Try.underlying32 rfl (by kernel_rfl)) rfl ?_
    exact ⟨eE, lB HB⟩
   ·replace c7 := Bool.eq_false_iff.mpr c7
    subst c7
    have H1 : ((gini_squares.f l0).bind fun ae => ((gini_total.f l0).bind fun ac => (some (0, ae, ac)))) = some (r1, r2, r3) := by rw [if_neg (show ¬ (false = true) by decide)] at H; exact H
    clear H; have H := H1; clear H1; replace H := ooB.mp H; obtain ⟨ae, ar, H⟩ := H; replace H : ((gini_total.f l0).bind fun ac => (some (0, ae, ac))) = some (r1, r2, r3) := H; have A9 := aaM ar; clear ar; replace H := ooB.mp H; obtain ⟨ac, au, H⟩ := H; (try dsimp only at H); have ax := aaM au; clear au; simp only [Option.some.injEq, Prod.mk.injEq] at H; obtain ⟨rfl, rfl, rfl⟩ := H
    go_wp2_with (first | ((with_reducible refine gate_callee (f := 85) rfl ?_); refine gL (some 13) Try.func85 #[.slice A0 l0.length c0] ?_; (with_reducible refine (gini_squares.calls _ _ l0 ae _ ?side1 ?side2 A9.out).mono ?_); (case side1 => exact cZ (ccB af.out HB.out)); (case side2 => exact ag.out); rintro e w' ⟨rfl, ⟨nd, rfl⟩⟩; refine ⟨_, rfl, ?_⟩; (try (rw [drewN_self wc]; generalize hq_ : World.drewN wc _ = wc; have ai : Aside0 (wc.heap[ah]? = some (.cells #[.int .u64 0, .int .u64 0, .int .u64 0] 32 (0, 0))) := ⟨by rw [← hq_]; exact (bZ aa)⟩; have aj : Aside0 (Below w.heap.size w wc) := ⟨by rw [← hq_]; exact (lB HB)⟩; clear aa HB hq_; have aa := ai; have HB := aj; clear ai aj))) | ((with_reducible refine gate_callee (f := 84) rfl ?_); refine gL (some 16) Try.func84 #[.slice A0 l0.length c0] ?_; (with_reducible refine (gini_total.calls _ _ l0 ac _ ?side1 ?side2 ax.out).mono ?_); (case side1 => exact cZ (ccB af.out HB.out)); (case side2 => exact ag.out); rintro e w' ⟨rfl, ⟨nd, rfl⟩⟩; refine ⟨_, rfl, ?_⟩; (try (rw [drewN_self wc]; generalize hq_ : World.drewN wc _ = wc; have ai : Aside0 (wc.heap[ah]? = some (.cells #[.int .u64 0, .int .u64 0, .int .u64 0] 32 (0, 0))) := ⟨by rw [← hq_]; exact (bZ aa)⟩; have aj : Aside0 (Below w.heap.size w wc) := ⟨by rw [← hq_]; exact (lB HB)⟩; clear aa HB hq_; have aa := ai; have HB := aj; clear ai aj)); obtain ⟨_, _, _, _, _, _⟩ := bE3 aa.out))
    refine bodyPost_ret (results_cell_row rfl _ _ ah 32 #[.int .u64 0, .int .u64 ae, .int .u64 ac] (0, 0) _ rfl (bZ aa) Try.underlying32 rfl (by kernel_rfl)) rfl ?_
    exact ⟨eE, lB HB⟩

/-! ### split_classes_alone: function 78 -/
def split_classes_alone.f (k : Nat) (l0_0 : List Int) : Option (Int × Int × Int) := (gini_Alone.f k l0_0).bind fun bt121 => (some (bt121.1, bt121.2.1, bt121.2.2))
theorem split_classes_alone.mono : ∀ a0 k, LeO (split_classes_alone.f k a0) (split_classes_alone.f (k + 1) a0) := by
 intro a0 k
 unfold split_classes_alone.f
 with_reducible repeat' first | apply gini_Alone.mono | apply LeO.refl | apply LeO.none | refine LeO.ite ?_ ?_ | refine LeO.bind ?_ (fun _ => ?_)
set_option maxHeartbeats 8000000 in
set_option maxRecDepth 100000 in
theorem split_classes_alone.calls (k : Nat) (ac : Option Addr) (ae : Nat) (aa : List Int) (r1 : Int) (r2 : Int) (r3 : Int) (w : World) (ak : Kd.C (Kd.int .i64) w ac aa.length aa) (al : aa.length ≤ ae) (h : split_classes_alone.f k aa = some (r1, r2, r3)) :
  Calls Try.prog 78 #[.agg #[.slice ac aa.length ae]] w fun e w' => e = .returned (.agg #[.int .u64 r1, .int .u64 r2, .int .u64 r3]) ∧ Below w.heap.size w w' := by
 have aw := Try.underlying81
 have ax := Try.underlying32
 have an := aaM ak
 have ao := aaM al
 clear ak al
 have HB := aaM (Below.refl w.heap.size w)
 have H : ((gini_Alone.f k aa).bind fun ag => (some (ag.1, ag.2.1, ag.2.2))) = some (r1, r2, r3) := h
 clear h
 replace H := ooB.mp H
 obtain ⟨⟨ah, ai, aj⟩, am, H⟩ := H
 (try dsimp only at H)
 have A2 := aaM am
 clear am
 simp only [Option.some.injEq, Prod.mk.injEq] at H
 obtain ⟨rfl, rfl, rfl⟩ := H
 go_enter Try.func78, Try.ntmps78
 go_wp2_with (first | ((with_reducible refine gate_dst (N := 1) rfl ?_); refine bxF w HB 1 #[.slice ac aa.length ae] 81 ?_; intro ay hg w3 hb ab HB ap; have az := ap; clear hb hg) | ((with_reducible refine gate_dst (N := 2) rfl ?_); refine bxF w HB 2 #[.int .u64 0, .int .u64 0, .int .u64 0] 32 ?_; intro aq hg w4 hb af HB ar; have a0 := ar; obtain ⟨au, av⟩ := nS hg ab; replace ab := bY hb ab; clear hb hg; have := au.out; have := av.out; obtain ⟨_, _⟩ := bE1 ab.out) | ((with_reducible refine gate_callee (f := 81) rfl ?_); refine gL (some 5) Try.func81 #[.slice ac aa.length ae] ?_; (with_reducible refine (gini_Alone.calls k _ _ aa ah ai aj _ ?side1 ?side2 A2.out).mono ?_); (case side1 => exact cZ (ccB an.out HB.out)); (case side2 => exact ao.out); rintro e w7 ⟨rfl, hb⟩; refine ⟨_, rfl, ?_⟩; replace ab := bY hb ab; replace af := bY hb af; replace HB := aaM (lP (lB HB) hb); (try clear hb); obtain ⟨_, _, _, _, _, _⟩ := bE3 af.out))
 refine bodyPost_ret (results_cell_row rfl _ _ aq 32 #[.int .u64 ah, .int .u64 ai, .int .u64 aj] (0, 0) _ rfl (bZ af) Try.underlying32 rfl (by kernel_rfl)) rfl ?_
 exact ⟨eE, lB HB⟩

/-! ### bits_Add64: function 54 -/

section
variable {P : Program} {ops : Array Oper} {Q : Exit → Act → World → Prop}
/-- A call of a function without a body: the model's entry tells its value at once. -/
def XCalls (P : Program) (f : FuncId) (args : Array Value) (w : World) (post : Ending → World → Prop) : Prop :=
 ∃ v, (callFunc f args).run P w = .ok (.value v) w ∧ post (.returned v) w
theorem XCalls.mono {f : FuncId} {args : Array Value} {w : World} {p q : Ending → World → Prop} (h : XCalls P f args w p) (hpq : ∀ e w', p e w' → q e w') : XCalls P f args w q := by
 obtain ⟨v, hr, hp⟩ := h
 exact ⟨v, hr, hpq _ _ hp⟩
theorem goesX_ {rest : List Oper} {oi : Oper} {a : Act} {w : World} (N : Option Tmp) (hd : oi.dst = N) (hg : oi.guard = none) {f : FuncId} {os_ : Array Operand} {ts : Array TypeId} (args : Array Value)
  (hop : oi.op = .call { callee := .value (.func f), args := os_, argTypes := ts }) (hargs : os_.map a.eval = args)
  (h : XCalls P f args w fun e w' => ∃ v, e = .returned v ∧ wpList P ops Q rest (a.put N v) w') : wpList P ops Q (oi :: rest) a w := by
 refine wpList_plain hg fun K hK => ?_
 obtain ⟨v, hr, v', he, hk⟩ := h
 obtain rfl := Ending.returned.inj he
 have hrun : (execOp a.eval oi).run P w = .ok (.value v) w := by
  unfold execOp
  simp [hop, resolve, Deferred.ofValue, invoke, Act.eval, hargs, hr]
 unfold Oper.wp
 rw [hrun, Oper.upon_value]
 subst hd
 exact hK _ _ hk
end
def bits_Add64.f (a0 : Int) (a1 : Int) (a2 : Int) : Option (Int × Int) := if 0 ≤ a0 ∧ 0 ≤ a1 ∧ 0 ≤ a2 ∧ a2 ≤ 1 then some ((a0 + a1 + a2) % 18446744073709551616, (a0 + a1 + a2) / 18446744073709551616) else none
theorem bits_Add64.calls (a0 : Int) (a1 : Int) (a2 : Int) (r1 : Int) (r2 : Int) (w : World) (h : bits_Add64.f a0 a1 a2 = some (r1, r2)) :
  XCalls Try.prog 54 #[.int .u64 a0, .int .u64 a1, .int .u64 a2] w fun e w' => e = .returned (.tuple #[.int .u64 r1, .int .u64 r2]) ∧ Drawn0 w w' := by
 unfold bits_Add64.f at h
 split at h
 ·rename_i hc
  simp only [Option.some.injEq, Prod.mk.injEq] at h; obtain ⟨rfl, rfl⟩ := h; refine ⟨_, ?_, rfl, Drawn0.refl _⟩; rw [run_callFunc_extern Try.func54 (by kernel_rfl) (by kernel_rfl) (by kernel_rfl) (e := add64Entry) (by kernel_rfl), run_add64 a0 a1 a2 hc.1 hc.2.1 hc.2.2.1 hc.2.2.2]; rfl
 ·cases h


/-! ### prod_Add: function 86 -/
def prod_Add.f (a0_0 : Int) (a0_1 : Int) (a1_0 : Int) (a1_1 : Int) : Option (Int × Int × Int) := (bits_Add64.f a0_1 a1_1 0).bind fun bt127 => ((bits_Add64.f a0_0 a1_0 bt127.2).bind fun bt129 => (if bt129.2 = 0 then (some (bt129.1, bt127.1, 0)) else (some (0, 0, 6))))
set_option maxHeartbeats 8000000 in
set_option maxRecDepth 100000 in
theorem prod_Add.calls (ae : Int) (ah : Int) (af : Int) (ai : Int) (r1 : Int) (r2 : Int) (r3 : Int) (w : World) (h : prod_Add.f ae ah af ai = some (r1, r2, r3)) :
  Calls Try.prog 86 #[.agg #[.int .u64 ae, .int .u64 ah], .agg #[.int .u64 af, .int .u64 ai]] w fun e w' => e = .returned (.tuple #[.agg #[.int .u64 r1, .int .u64 r2], .int .i64 r3]) ∧ Below w.heap.size w w' := by
 have bo := Try.underlying30
 have HB := aaM (Below.refl w.heap.size w)
 have H : ((bits_Add64.f ah ai 0).bind fun bi => ((bits_Add64.f ae af bi.2).bind fun aq => (if aq.2 = 0 then (some (aq.1, bi.1, 0)) else (some (0, 0, 6))))) = some (r1, r2, r3) := h
 clear h
 replace H := ooB.mp H
 obtain ⟨⟨ar, ao⟩, bj, H⟩ := H
 (try dsimp only at H)
 have A3 := aaM bj
 clear bj
 replace H := ooB.mp H
 obtain ⟨⟨aw, an⟩, bk, H⟩ := H
 (try dsimp only at H)
 have A4 := aaM bk
 clear bk
 by_cases c5 : an = 0
 ·rw [if_pos c5] at H
  have c5b0 : (an == 0) = true := beq_iff_eq.mpr c5; have c5b1 : (an != 0) = false := bne_eq_false_iff_eq.mpr c5; clear c5; simp only [Option.some.injEq, Prod.mk.injEq] at H; obtain ⟨rfl, rfl, rfl⟩ := H; go_enter Try.func86, Try.ntmps86
  go_wp2_with (first | ((with_reducible refine gate_dst (N := 2) rfl ?_); refine bxF w HB 2 #[.int .u64 ae, .int .u64 ah] 30 ?_; intro au hg w6 hb aa HB ax; have bl := ax; clear hb hg) | ((with_reducible refine gate_dst (N := 3) rfl ?_); refine bxF w HB 3 #[.int .u64 af, .int .u64 ai] 30 ?_; intro av hg w7 hb ab HB ay; have bm := ay; obtain ⟨az, a0⟩ := nS hg aa; replace aa := bY hb aa; clear hb hg) | ((with_reducible refine gate_dst (N := 4) rfl ?_); refine bxF w HB 4 #[.int .u64 0, .int .u64 0] 30 ?_; intro ap hg w8 hb ac HB a1; have bn := a1; obtain ⟨a2, a3⟩ := nS hg aa; replace aa := bY hb aa; obtain ⟨a4, a5⟩ := nS hg ab; replace ab := bY hb ab; clear hb hg; have := az.out; have := a0.out; have := a2.out; have := a3.out; obtain ⟨_, _, _, _⟩ := bE2 aa.out; have := a4.out; have := a5.out; obtain ⟨_, _, _, _⟩ := bE2 ab.out) | ((with_reducible refine gate_callee (f := 54) rfl ?_); refine goesX_ (some 15) rfl rfl #[.int .u64 ah, .int .u64 ai, .int .u64 0] rfl mG ?_; (with_reducible refine (bits_Add64.calls ah ai 0 ar ao _ A3.out).mono ?_); rintro e w' ⟨rfl, ⟨nd, rfl⟩⟩; refine ⟨_, rfl, ?_⟩; (try (rw [drewN_self w8]; generalize hq_ : World.drewN w8 _ = w8; have aj : Aside0 (w8.heap[au]? = some (.cells #[.int .u64 ae, .int .u64 ah] 30 (0, 0))) := ⟨by rw [← hq_]; exact (bZ aa)⟩; have ak : Aside0 (w8.heap[av]? = some (.cells #[.int .u64 af, .int .u64 ai] 30 (0, 0))) := ⟨by rw [← hq_]; exact (bZ ab)⟩; have al : Aside0 (w8.heap[ap]? = some (.cells #[.int .u64 0, .int .u64 0] 30 (0, 0))) := ⟨by rw [← hq_]; exact (bZ ac)⟩; have am : Aside0 (Below w.heap.size w w8) := ⟨by rw [← hq_]; exact (lB HB)⟩; clear aa ab ac HB hq_; have aa := aj; have ab := ak; have ac := al; have HB := am; clear aj ak al am; obtain ⟨a6, a7, a8, a9⟩ := bE2 aa.out; obtain ⟨ba, bb, bc, bd⟩ := bE2 ab.out; obtain ⟨be, bf, bg, bh⟩ := bE2 ac.out))) | ((with_reducible refine gate_callee (f := 54) rfl ?_); refine goesX_ (some 24) rfl rfl #[.int .u64 ae, .int .u64 af, .int .u64 ao] rfl mG ?_; (with_reducible refine (bits_Add64.calls ae af ao aw an _ A4.out).mono ?_); rintro e w' ⟨rfl, ⟨nd, rfl⟩⟩; refine ⟨_, rfl, ?_⟩; (try (rw [drewN_self w8]; generalize hq_ : World.drewN w8 _ = w8; have aj : Aside0 (w8.heap[au]? = some (.cells #[.int .u64 ae, .int .u64 ah] 30 (0, 0))) := ⟨by rw [← hq_]; exact (bZ aa)⟩; have ak : Aside0 (w8.heap[av]? = some (.cells #[.int .u64 af, .int .u64 ai] 30 (0, 0))) := ⟨by rw [← hq_]; exact (bZ ab)⟩; have al : Aside0 (w8.heap[ap]? = some (.cells #[.int .u64 0, .int .u64 0] 30 (0, 0))) := ⟨by rw [← hq_]; exact (bZ ac)⟩; have am : Aside0 (Below w.heap.size w w8) := ⟨by rw [← hq_]; exact (lB HB)⟩; clear aa ab ac HB hq_; have aa := aj; have ab := ak; have ac := al; have HB := am; clear aj ak al am; obtain ⟨a6, a7, a8, a9⟩ := bE2 aa.out; obtain ⟨ba, bb, bc, bd⟩ := bE2 ab.out; obtain ⟨be, bf, bg, bh⟩ := bE2 ac.out)); obtain ⟨_, _, _, _⟩ := bE2 ac.out))
  refine bodyPost_ret (results_ct rfl _ _ ap 30 #[.int .u64 aw, .int .u64 ar] (0, 0) _ rfl (bZ ac) Try.underlying30 rfl (by kernel_rfl)) rfl ?_
  exact ⟨eE, lB HB⟩
 ·rw [if_neg c5] at H
  have c5b0 : (an == 0) = false := beq_eq_false_iff_ne.mpr c5; have c5b1 : (an != 0) = true := bne_iff_ne.mpr c5; simp only [Option.some.injEq, Prod.mk.injEq] at H; obtain ⟨rfl, rfl, rfl⟩ := H; go_enter Try.func86, Try.ntmps86
  go_wp2_with (first | ((with_reducible refine gate_dst (N := 2) rfl ?_); refine bxF w HB 2 #[.int .u64 ae, .int .u64 ah] 30 ?_; intro au hg bp hb aa HB ax; have bl := ax; clear hb hg) | ((with_reducible refine gate_dst (N := 3) rfl ?_); refine bxF w HB 3 #[.int .u64 af, .int .u64 ai] 30 ?_; intro av hg bq hb ab HB ay; have bm := ay; obtain ⟨az, a0⟩ := nS hg aa; replace aa := bY hb aa; clear hb hg) | ((with_reducible refine gate_dst (N := 4) rfl ?_); refine bxF w HB 4 #[.int .u64 0, .int .u64 0] 30 ?_; intro ap hg ag hb ac HB a1; have bn := a1; obtain ⟨a2, a3⟩ := nS hg aa; replace aa := bY hb aa; obtain ⟨a4, a5⟩ := nS hg ab; replace ab := bY hb ab; clear hb hg; have := az.out; have := a0.out; have := a2.out; have := a3.out; obtain ⟨_, _, _, _⟩ := bE2 aa.out; have := a4.out; have := a5.out; obtain ⟨_, _, _, _⟩ := bE2 ab.out) | ((with_reducible refine gate_callee (f := 54) rfl ?_); refine goesX_ (some 15) rfl rfl #[.int .u64 ah, .int .u64 ai, .int .u64 0] rfl mG ?_; (with_reducible refine (bits_Add64.calls ah ai 0 ar ao _ A3.out).mono ?_); rintro e w' ⟨rfl, ⟨nd, rfl⟩⟩; refine ⟨_, rfl, ?_⟩; (try (rw [drewN_self ag]; generalize hq_ : World.drewN ag _ = ag; have aj : Aside0 (ag.heap[au]? = some (.cells #[.int .u64 ae, .int .u64 ah] 30 (0, 0))) := ⟨by rw [← hq_]; exact (bZ aa)⟩; have ak : Aside0 (ag.heap[av]? = some (.cells #[.int .u64 af, .int .u64 ai] 30 (0, 0))) := ⟨by rw [← hq_]; exact (bZ ab)⟩; have al : Aside0 (ag.heap[ap]? = some (.cells #[.int .u64 0, .int .u64 0] 30 (0, 0))) := ⟨by rw [← hq_]; exact (bZ ac)⟩; have am : Aside0 (Below w.heap.size w ag) := ⟨by rw [← hq_]; exact (lB HB)⟩; clear aa ab ac HB hq_; have aa := aj; have ab := ak; have ac := al; have HB := am; clear aj ak al am; obtain ⟨a6, a7, a8, a9⟩ := bE2 aa.out; obtain ⟨ba, bb, bc, bd⟩ := bE2 ab.out; obtain ⟨be, bf, bg, bh⟩ := bE2 ac.out))) | ((with_reducible refine gate_callee (f := 54) rfl ?_); refine goesX_ (some 24) rfl rfl #[.int .u64 ae, .int .u64 af, .int .u64 ao] rfl mG ?_; (with_reducible refine (bits_Add64.calls ae af ao aw an _ A4.out).mono ?_); rintro e w' ⟨rfl, ⟨nd, rfl⟩⟩; refine ⟨_, rfl, ?_⟩; (try (rw [drewN_self ag]; generalize hq_ : World.drewN ag _ = ag; have aj : Aside0 (ag.heap[au]? = some (.cells #[.int .u64 ae, .int .u64 ah] 30 (0, 0))) := ⟨by rw [← hq_]; exact (bZ aa)⟩; have ak : Aside0 (ag.heap[av]? = some (.cells #[.int .u64 af, .int .u64 ai] 30 (0, 0))) := ⟨by rw [← hq_]; exact (bZ ab)⟩; have al : Aside0 (ag.heap[ap]? = some (.cells #[.int .u64 0, .int .u64 0] 30 (0, 0))) := ⟨by rw [← hq_]; exact (bZ ac)⟩; have am : Aside0 (Below w.heap.size w ag) := ⟨by rw [← hq_]; exact (lB HB)⟩; clear aa ab ac HB hq_; have aa := aj; have ab := ak; have ac := al; have HB := am; clear aj ak al am; obtain ⟨a6, a7, a8, a9⟩ := bE2 aa.out; obtain ⟨ba, bb, bc, bd⟩ := bE2 ab.out; obtain ⟨be, bf, bg, bh⟩ := bE2 ac.out)); obtain ⟨_, _, _, _⟩ := bE2 ac.out))
  refine bodyPost_ret (results_ct rfl _ _ ap 30 #[.int .u64 0, .int .u64 0] (0, 0) _ rfl (bZ ac) Try.underlying30 rfl (by kernel_rfl)) rfl ?_
  exact ⟨eE, lB HB⟩

/-! ### bits_Mul64: function 53 -/
def bits_Mul64.f (a0 : Int) (a1 : Int) : Option (Int × Int) := some (IntKind.u64.wrap ((IntKind.u64.wrap ((IntKind.u64.wrap ((a0 / 4294967296) * (a1 / 4294967296))) + ((IntKind.u64.wrap ((IntKind.u64.wrap ((a0 / 4294967296) * (Go.bits .and .u64 a1 4294967295))) + ((IntKind.u64.wrap ((Go.bits .and .u64 a0 4294967295) * (Go.bits .and .u64 a1 4294967295))) / 4294967296))) / 4294967296))) + ((IntKind.u64.wrap ((Go.bits .and .u64 (IntKind.u64.wrap ((IntKind.u64.wrap ((a0 / 4294967296) * (Go.bits .and .u64 a1 4294967295))) + ((IntKind.u64.wrap ((Go.bits .and .u64 a0 4294967295) * (Go.bits .and .u64 a1 4294967295))) / 4294967296))) 4294967295) + (IntKind.u64.wrap ((Go.bits .and .u64 a0 4294967295) * (a1 / 4294967296))))) / 4294967296)), IntKind.u64.wrap (a0 * a1))
set_option maxHeartbeats 8000000 in
set_option maxRecDepth 100000 in
theorem bits_Mul64.calls (a0 : Int) (a1 : Int) (r1 : Int) (r2 : Int) (w : World) (h : bits_Mul64.f a0 a1 = some (r1, r2)) :
  Calls Try.prog 53 #[.int .u64 a0, .int .u64 a1] w fun e w' => e = .returned (.tuple #[.int .u64 r1, .int .u64 r2]) ∧ Drawn0 w w' := by
 have H : (some (IntKind.u64.wrap ((IntKind.u64.wrap ((IntKind.u64.wrap ((a0 / 4294967296) * (a1 / 4294967296))) + ((IntKind.u64.wrap ((IntKind.u64.wrap ((a0 / 4294967296) * (Go.bits .and .u64 a1 4294967295))) + ((IntKind.u64.wrap ((Go.bits .and .u64 a0 4294967295) * (Go.bits .and .u64 a1 4294967295))) / 4294967296))) / 4294967296))) + ((IntKind.u64.wrap ((Go.bits .and .u64 (IntKind.u64.wrap ((IntKind.u64.wrap ((a0 / 4294967296) * (Go.bits .and .u64 a1 4294967295))) + ((IntKind.u64.wrap ((Go.bits .and .u64 a0 4294967295) * (Go.bits .and .u64 a1 4294967295))) / 4294967296))) 4294967295) + (IntKind.u64.wrap ((Go.bits .and .u64 a0 4294967295) * (a1 / 4294967296))))) / 4294967296)), IntKind.u64.wrap (a0 * a1))) = some (r1, r2) := h
 clear h
 simp only [Option.some.injEq, Prod.mk.injEq] at H
 obtain ⟨rfl, rfl⟩ := H
 go_enter Try.func53, Try.ntmps53
 go_wp2
 all_goals (go_ret2; exact ⟨eF, by repeat (first | exact Drawn0.refl _ | apply Drawn0.step)⟩)

/-! ### prod_Mul: function 87 -/
def prod_Mul.f (a0 : Int) (a1 : Int) : Option (Int × Int) := (bits_Mul64.f a0 a1).bind fun bt132 => (some (bt132.1, bt132.2))
set_option maxHeartbeats 8000000 in
set_option maxRecDepth 100000 in
theorem prod_Mul.calls (a0 : Int) (a1 : Int) (r1 : Int) (r2 : Int) (w : World) (h : prod_Mul.f a0 a1 = some (r1, r2)) :
  Calls Try.prog 87 #[.int .u64 a0, .int .u64 a1] w fun e w' => e = .returned (.agg #[.int .u64 r1, .int .u64 r2]) ∧ Below w.heap.size w w' := by
 have ak := Try.underlying30
 have HB := aaM (Below.refl w.heap.size w)
 have H : ((bits_Mul64.f a0 a1).bind fun ae => (some (ae.1, ae.2))) = some (r1, r2) := h
 clear h
 replace H := ooB.mp H
 obtain ⟨⟨ab, ac⟩, af, H⟩ := H
 (try dsimp only at H)
 have A3 := aaM af
 clear af
 simp only [Option.some.injEq, Prod.mk.injEq] at H
 obtain ⟨rfl, rfl⟩ := H
 go_enter Try.func87, Try.ntmps87
 go_wp2_with (first | ((with_reducible refine gate_dst (N := 4) rfl ?_); refine bxF w HB 4 #[.int .u64 0, .int .u64 0] 30 ?_; intro ag hg w4 hb aa HB aj; have al := aj; clear hb hg) | ((with_reducible refine gate_callee (f := 53) rfl ?_); refine gL (some 10) Try.func53 #[.int .u64 a0, .int .u64 a1] ?_; (with_reducible refine (bits_Mul64.calls a0 a1 ab ac _ A3.out).mono ?_); rintro e w' ⟨rfl, ⟨nd, rfl⟩⟩; refine ⟨_, rfl, ?_⟩; (try (rw [drewN_self w4]; generalize hq_ : World.drewN w4 _ = w4; have ah : Aside0 (w4.heap[ag]? = some (.cells #[.int .u64 0, .int .u64 0] 30 (0, 0))) := ⟨by rw [← hq_]; exact (bZ aa)⟩; have ai : Aside0 (Below w.heap.size w w4) := ⟨by rw [← hq_]; exact (lB HB)⟩; clear aa HB hq_; have aa := ah; have HB := ai; clear ah ai; obtain ⟨_, _, _, _⟩ := bE2 aa.out)); obtain ⟨_, _, _, _⟩ := bE2 aa.out))
 refine bodyPost_ret (results_cell_row rfl _ _ ag 30 #[.int .u64 ab, .int .u64 ac] (0, 0) _ rfl (bZ aa) Try.underlying30 rfl (by kernel_rfl)) rfl ?_
 exact ⟨eE, lB HB⟩

/-! ### gini_Score: function 82 -/
def gini_Score.j0 : Nat → List Int → List Int → Bool → Option (Int × Int × Int)
 | 0, _, _, _ => none
 | k + 1, x0, x1, x33 => if x33 = true then (some (0, 0, 0)) else ((gini_total.f x0).bind fun t139 => ((gini_total.f x1).bind fun t140 => ((gini_squares.f x0).bind fun t141 => ((prod_Mul.f t141 t140).bind fun bt142 => ((gini_squares.f x1).bind fun t144 => ((prod_Mul.f t144 t139).bind fun bt145 => ((prod_Add.f bt142.1 bt142.2 bt145.1 bt145.2).bind fun bt147 => (some (bt147.1, bt147.2.1, IntKind.u64.wrap (t139 * t140))))))))))
def gini_Score.f (k : Nat) (l0 : List Int) (l1 : List Int) : Option (Int × Int × Int) := (gini_May.f k l0).bind fun t135 => (if t135 = true then ((gini_May.f k l1).bind fun t136 => (if t136 = true then (if (l0.length : Int) = (l1.length : Int) then ((gini_total.f l0).bind fun t137 => (if t137 = 0 then (gini_Score.j0 k l0 l1 true) else ((gini_total.f l1).bind fun t138 => (gini_Score.j0 k l0 l1 (t138 == 0))))) else (gini_Score.j0 k l0 l1 true)) else (gini_Score.j0 k l0 l1 true))) else (gini_Score.j0 k l0 l1 true))
theorem gini_Score.mono_l : ∀ k, (∀ y0 y1 y2, LeO (gini_Score.j0 k y0 y1 y2) (gini_Score.j0 (k + 1) y0 y1 y2))
 | 0 => fun _ _ _ r h => by simp [gini_Score.j0] at h
 | k + 1 => by
  have ih0 := gini_Score.mono_l k
  ·intro y0 y1 y2
   unfold gini_Score.j0
   with_reducible repeat' first | apply ih0 | apply gini_May.mono | apply LeO.refl | apply LeO.none | refine LeO.ite ?_ ?_ | refine LeO.bind ?_ (fun _ => ?_)
theorem gini_Score.mono : ∀ a0 a1 k, LeO (gini_Score.f k a0 a1) (gini_Score.f (k + 1) a0 a1) := by
 intro a0 a1 k
 have ih0 := gini_Score.mono_l k
 unfold gini_Score.f
 with_reducible repeat' first | apply ih0 | apply gini_May.mono | apply LeO.refl | apply LeO.none | refine LeO.ite ?_ ?_ | refine LeO.bind ?_ (fun _ => ?_)
set_option maxHeartbeats 8000000 in
set_option maxRecDepth 100000 in
theorem gini_Score.calls (k : Nat) (A0 : Option Addr) (c0 : Nat) (l0 : List Int) (A1 : Option Addr) (c1 : Nat) (l1 : List Int) (r1 : Int) (r2 : Int) (r3 : Int) (w : World) (a7 : Kd.C (Kd.int .i64) w A0 l0.length l0) (a8 : l0.length ≤ c0) (a9 : Kd.C (Kd.int .i64) w A1 l1.length l1) (ba : l1.length ≤ c1) (h : gini_Score.f k l0 l1 = some (r1, r2, r3)) :
  Calls Try.prog 82 #[.slice A0 l0.length c0, .slice A1 l1.length c1] w fun e w' => e = .returned (.agg #[.int .u64 r1, .int .u64 r2, .int .u64 r3]) ∧ Below w.heap.size w w' := by
 have b5 := Try.underlying32
 have b6 := Try.underlying30
 have an := aaM a7
 have ao := aaM a8
 clear a7 a8
 have ar := aaM a9
 have au := aaM ba
 clear a9 ba
 have HB := aaM (Below.refl w.heap.size w)
 have H : ((gini_May.f k l0).bind fun az => (if az = true then ((gini_May.f k l1).bind fun ap => (if ap = true then (if (l0.length : Int) = (l1.length : Int) then ((gini_total.f l0).bind fun ae => (if ae = 0 then (gini_Score.j0 k l0 l1 true) else ((gini_total.f l1).bind fun ah => (gini_Score.j0 k l0 l1 (ah == 0))))) else (gini_Score.j0 k l0 l1 true)) else (gini_Score.j0 k l0 l1 true))) else (gini_Score.j0 k l0 l1 true))) = some (r1, r2, r3) := h
 clear h
 have a4 := aaM H
 clear H
 go_enter Try.func82, Try.ntmps82
 go_upto_region 1 with (first | ((with_reducible refine gate_dst (N := 4) rfl ?_); (try (refine gate_guard (by rfl) ?_; dsimp only)); refine bxF w HB 4 #[.int .u64 0, .int .u64 0, .int .u64 0] 32 ?_; intro av hg w4 hb aa HB bo; have b7 := bo; clear hb hg))
 (try simp only [Act.put, ssB, ssZ, ssS])
 go_cut [33] (fun bp wc => ∃ (kq : Nat) (a0 : Bool), bp = .bool a0 ∧ Aside0 (gini_Score.j0 kq l0 l1 a0 = some (r1, r2, r3)) ∧ Aside0 (kq ≤ k) ∧ Aside0 (wc.heap[av]? = some (.cells #[.int .u64 0, .int .u64 0, .int .u64 0] 32 (0, 0))) ∧ Aside0 (Below w.heap.size w wc))
 case first =>
  have H := a4.out; clear a4; replace H := ooB.mp H; obtain ⟨az, bb, H⟩ := H; (try dsimp only at H); have A5 := aaM bb; clear bb
  by_cases c6 : az = true
  ·subst c6
   have H1 : ((gini_May.f k l1).bind fun ap => (if ap = true then (if (l0.length : Int) = (l1.length : Int) then ((gini_total.f l0).bind fun ae => (if ae = 0 then (gini_Score.j0 k l0 l1 true) else ((gini_total.f l1).bind fun ah => (gini_Score.j0 k l0 l1 (ah == 0))))) else (gini_Score.j0 k l0 l1 true)) else (gini_Score.j0 k l0 l1 true))) = some (r1, r2, r3) := by rw [if_pos rfl] at H; exact H
   clear H; have H := H1; clear H1; replace H := ooB.mp H; obtain ⟨ap, bc, H⟩ := H; (try dsimp only at H); have A7 := aaM bc; clear bc
   by_cases c8 : ap = true
   ·subst c8
    have H1 : (if (l0.length : Int) = (l1.length : Int) then ((gini_total.f l0).bind fun ae => (if ae = 0 then (gini_Score.j0 k l0 l1 true) else ((gini_total.f l1).bind fun ah => (gini_Score.j0 k l0 l1 (ah == 0))))) else (gini_Score.j0 k l0 l1 true)) = some (r1, r2, r3) := by rw [if_pos rfl] at H; exact H
    clear H; have H := H1; clear H1
    by_cases c9 : (l0.length : Int) = (l1.length : Int)
    ·rw [if_pos c9] at H
     have c9b0 : ((l0.length : Int) == (l1.length : Int)) = true := beq_iff_eq.mpr c9; have c9b1 : ((l0.length : Int) != (l1.length : Int)) = false := bne_eq_false_iff_eq.mpr c9
     have c9b2 : (l0.length == l1.length) = true := by first | simpa using c9 | (simp at c9 ⊢; omega)
     clear c9; (first | rw [c9b0] | (simp only [i64_w, i32_w]; rw [c9b0]) | skip); replace H := ooB.mp H; obtain ⟨ae, bd, H⟩ := H; (try dsimp only at H); have be := aaM bd; clear bd
     by_cases aq : ae = 0
     ·rw [if_pos aq] at H
      have c11b0 : (ae == 0) = true := beq_iff_eq.mpr aq; have c11b1 : (ae != 0) = false := bne_eq_false_iff_eq.mpr aq; clear aq; have H' := aaM H; clear H
      go_wp2_with (first | ((with_reducible refine gate_callee (f := 83) rfl ?_); refine gL (some 10) Try.func83 #[.slice A0 l0.length c0] ?_; (with_reducible refine (gini_May.calls k _ _ l0 true _ ?side1 ?side2 A5.out).mono ?_); (case side1 => exact cZ (ccB an.out HB.out)); (case side2 => exact ao.out); rintro e w' ⟨rfl, ⟨nd, rfl⟩⟩; refine ⟨_, rfl, ?_⟩) | (go_at_call 83; (with_reducible refine (gini_May.calls k _ _ l1 true _ ?side1 ?side2 A7.out).mono ?_); (case side1 => exact cZ (ccB ar.out (lB HB))); (case side2 => exact au.out); rintro e w' ⟨rfl, ⟨nd, rfl⟩⟩) | (go_at_call 84; (with_reducible refine (gini_total.calls _ _ l0 ae _ ?side1 ?side2 be.out).mono ?_); (case side1 => exact cZ (ccB an.out (lB HB))); (case side2 => exact ao.out); rintro e w' ⟨rfl, ⟨nd, rfl⟩⟩))
      go_meet
      case rel => exact ⟨_, (true), (eF), H', ⟨by first | omega | exact Nat.le_refl _⟩, ⟨bZ aa⟩, ⟨lB HB⟩⟩
     ·rw [if_neg aq] at H
      have c11b0 : (ae == 0) = false := beq_eq_false_iff_ne.mpr aq; have c11b1 : (ae != 0) = true := bne_iff_ne.mpr aq; replace H := ooB.mp H; obtain ⟨ah, bf, H⟩ := H; (try dsimp only at H); have bq := aaM bf; clear bf; have H' := aaM H; clear H
      go_wp2_with (first | ((with_reducible refine gate_callee (f := 83) rfl ?_); refine gL (some 10) Try.func83 #[.slice A0 l0.length c0] ?_; (with_reducible refine (gini_May.calls k _ _ l0 true _ ?side1 ?side2 A5.out).mono ?_); (case side1 => exact cZ (ccB an.out HB.out)); (case side2 => exact ao.out); rintro e w' ⟨rfl, ⟨nd, rfl⟩⟩; refine ⟨_, rfl, ?_⟩) | (go_at_call 83; (with_reducible refine (gini_May.calls k _ _ l1 true _ ?side1 ?side2 A7.out).mono ?_); (case side1 => exact cZ (ccB ar.out (lB HB))); (case side2 => exact au.out); rintro e w' ⟨rfl, ⟨nd, rfl⟩⟩) | (go_at_call 84; (with_reducible refine (gini_total.calls _ _ l0 ae _ ?side1 ?side2 be.out).mono ?_); (case side1 => exact cZ (ccB an.out (lB HB))); (case side2 => exact ao.out); rintro e w' ⟨rfl, ⟨nd, rfl⟩⟩) | (go_at_call 84; (with_reducible refine (gini_total.calls _ _ l1 ah _ ?side1 ?side2 bq.out).mono ?_); (case side1 => exact cZ (ccB ar.out (lB HB))); (case side2 => exact au.out); rintro e w' ⟨rfl, ⟨nd, rfl⟩⟩))
      go_meet
      case rel => exact ⟨_, ((ah == 0)), (eF), H', ⟨by first | omega | exact Nat.le_refl _⟩, ⟨bZ aa⟩, ⟨lB HB⟩⟩
    ·rw [if_neg c9] at H
     have c9b0 : ((l0.length : Int) == (l1.length : Int)) = false := beq_eq_false_iff_ne.mpr c9; have c9b1 : ((l0.length : Int) != (l1.length : Int)) = true := bne_iff_ne.mpr c9
     have c9b2 : (l0.length == l1.length) = false := by first | simpa using c9 | (simp at c9 ⊢; omega)
     (first | rw [c9b0] | (simp only [i64_w, i32_w]; rw [c9b0]) | skip); have H' := aaM H; clear H
     go_wp2_with (first | ((with_reducible refine gate_callee (f := 83) rfl ?_); refine gL (some 10) Try.func83 #[.slice A0 l0.length c0] ?_; (with_reducible refine (gini_May.calls k _ _ l0 true _ ?side1 ?side2 A5.out).mono ?_); (case side1 => exact cZ (ccB an.out HB.out)); (case side2 => exact ao.out); rintro e w' ⟨rfl, ⟨nd, rfl⟩⟩; refine ⟨_, rfl, ?_⟩) | (go_at_call 83; (with_reducible refine (gini_May.calls k _ _ l1 true _ ?side1 ?side2 A7.out).mono ?_); (case side1 => exact cZ (ccB ar.out (lB HB))); (case side2 => exact au.out); rintro e w' ⟨rfl, ⟨nd, rfl⟩⟩))
     go_meet
     case rel => exact ⟨_, (true), (eF), H', ⟨by first | omega | exact Nat.le_refl _⟩, ⟨bZ aa⟩, ⟨lB HB⟩⟩
   ·replace c8 := Bool.eq_false_iff.mpr c8
    subst c8
    have H1 : (gini_Score.j0 k l0 l1 true) = some (r1, r2, r3) := by rw [if_neg (show ¬ (false = true) by decide)] at H; exact H
    clear H; have H := H1; clear H1; have H' := aaM H; clear H
    go_wp2_with (first | ((with_reducible refine gate_callee (f := 83) rfl ?_); refine gL (some 10) Try.func83 #[.slice A0 l0.length c0] ?_; (with_reducible refine (gini_May.calls k _ _ l0 true _ ?side1 ?side2 A5.out).mono ?_); (case side1 => exact cZ (ccB an.out HB.out)); (case side2 => exact ao.out); rintro e w' ⟨rfl, ⟨nd, rfl⟩⟩; refine ⟨_, rfl, ?_⟩) | (go_at_call 83; (with_reducible refine (gini_May.calls k _ _ l1 false _ ?side1 ?side2 A7.out).mono ?_); (case side1 => exact cZ (ccB ar.out (lB HB))); (case side2 => exact au.out); rintro e w' ⟨rfl, ⟨nd, rfl⟩⟩))
    go_meet
    case rel => exact ⟨_, (true), (eF), H', ⟨by first | omega | exact Nat.le_refl _⟩, ⟨bZ aa⟩, ⟨lB HB⟩⟩
  ·replace c6 := Bool.eq_false_iff.mpr c6
   subst c6
   have H1 : (gini_Score.j0 k l0 l1 true) = some (r1, r2, r3) := by rw [if_neg (show ¬ (false = true) by decide)] at H; exact H
   clear H; have H := H1; clear H1; have H' := aaM H; clear H
   go_wp2_with (first | ((with_reducible refine gate_callee (f := 83) rfl ?_); refine gL (some 10) Try.func83 #[.slice A0 l0.length c0] ?_; (with_reducible refine (gini_May.calls k _ _ l0 false _ ?side1 ?side2 A5.out).mono ?_); (case side1 => exact cZ (ccB an.out HB.out)); (case side2 => exact ao.out); rintro e w' ⟨rfl, ⟨nd, rfl⟩⟩; refine ⟨_, rfl, ?_⟩))
   go_meet
   case rel => exact ⟨_, (true), (eF), H', ⟨by first | omega | exact Nat.le_refl _⟩, ⟨bZ aa⟩, ⟨lB HB⟩⟩
 case rest =>
  clear a4; (try clear c1); obtain ⟨kq, a0, rfl, HA, b8, aa, HB⟩ := hcut
  cases kq with
  | zero => exact absurd HA.out (by simp [gini_Score.j0])
  | succ b9 =>
   have H := HA.out; clear HA; simp only [gini_Score.j0] at H
   by_cases a1 : a0 = true
   ·subst a1
    have H1 : (some (0, 0, 0)) = some (r1, r2, r3) := by rw [if_pos rfl] at H; exact H
    clear H; have H := H1; clear H1; simp only [Option.some.injEq, Prod.mk.injEq] at H; obtain ⟨rfl, rfl, rfl⟩ := H; obtain ⟨_, _, _, _, _, _⟩ := bE3 aa.out; go_wp2; refine bodyPost_ret (results_cell_row rfl _ _ av 32 #[.int .u64 0, .int .u64 0, .int .u64 0] (0, 0) _ rfl (bZ aa) Try.underlying32 rfl (by kernel_rfl)) rfl ?_
    exact ⟨eE, lB HB⟩
   ·replace a1 := Bool.eq_false_iff.mpr a1
    subst a1
    have H1 : ((gini_total.f l0).bind fun ac => ((gini_total.f l1).bind fun af => ((gini_squares.f l0).bind fun am => ((prod_Mul.f am af).bind fun aj => ((gini_squares.f l1).bind fun ai => ((prod_Mul.f ai ac).bind fun ag => ((prod_Add.f aj.1 aj.2 ag.1 ag.2).bind fun ab => (some (ab.1, ab.2.1, IntKind.u64.wrap (ac * af)))))))))) = some (r1, r2, r3) := by rw [if_neg (show ¬ (false = true) by decide)] at H; exact H
    clear H; have H := H1; clear H1; replace H := ooB.mp H; obtain ⟨ac, bg, H⟩ := H; replace H : ((gini_total.f l1).bind fun af => ((gini_squares.f l0).bind fun am => ((prod_Mul.f am af).bind fun aj => ((gini_squares.f l1).bind fun ai => ((prod_Mul.f ai ac).bind fun ag => ((prod_Add.f aj.1 aj.2 ag.1 ag.2).bind fun ab => (some (ab.1, ab.2.1, IntKind.u64.wrap (ac * af))))))))) = some (r1, r2, r3) := H; have br := aaM bg; clear bg; replace H := ooB.mp H; obtain ⟨af, bh, H⟩ := H; replace H : ((gini_squares.f l0).bind fun am => ((prod_Mul.f am af).bind fun aj => ((gini_squares.f l1).bind fun ai => ((prod_Mul.f ai ac).bind fun ag => ((prod_Add.f aj.1 aj.2 ag.1 ag.2).bind fun ab => (some (ab.1, ab.2.1, IntKind.u64.wrap (ac * af)))))))) = some (r1, r2, r3) := H; have bs := aaM bh; clear bh; replace H := ooB.mp H; obtain ⟨am, bi, H⟩ := H; replace H : ((prod_Mul.f am af).bind fun aj => ((gini_squares.f l1).bind fun ai => ((prod_Mul.f ai ac).bind fun ag => ((prod_Add.f aj.1 aj.2 ag.1 ag.2).bind fun ab => (some (ab.1, ab.2.1, IntKind.u64.wrap (ac * af))))))) = some (r1, r2, r3) := H; have bt := aaM bi; clear bi; replace H := ooB.mp H; obtain ⟨⟨aw, ax⟩, bj, H⟩ := H; replace H : ((gini_squares.f l1).bind fun ai => ((prod_Mul.f ai ac).bind fun ag => ((prod_Add.f aw ax ag.1 ag.2).bind fun ab => (some (ab.1, ab.2.1, IntKind.u64.wrap (ac * af)))))) = some (r1, r2, r3) := H; have bu := aaM bj; clear bj; replace H := ooB.mp H; obtain ⟨ai, bk, H⟩ := H; replace H : ((prod_Mul.f ai ac).bind fun ag => ((prod_Add.f aw ax ag.1 ag.2).bind fun ab => (some (ab.1, ab.2.1, IntKind.u64.wrap (ac * af))))) = some (r1, r2, r3) := H; have bv := aaM bk; clear bk; replace H := ooB.mp H; obtain ⟨⟨a2, a3⟩, bl, H⟩ := H; replace H : ((prod_Add.f aw ax a2 a3).bind fun ab => (some (ab.1, ab.2.1, IntKind.u64.wrap (ac * af)))) = some (r1, r2, r3) := H; have bw := aaM bl; clear bl; replace H := ooB.mp H; obtain ⟨⟨a5, a6, bz⟩, bm, H⟩ := H; (try dsimp only at H); have b0 := aaM bm; clear bm; simp only [Option.some.injEq, Prod.mk.injEq] at H; obtain ⟨rfl, rfl, rfl⟩ := H
    go_wp2_with (first | ((with_reducible refine gate_callee (f := 84) rfl ?_); refine gL (some 36) Try.func84 #[.slice A0 l0.length c0] ?_; (with_reducible refine (gini_total.calls _ _ l0 ac _ ?side1 ?side2 br.out).mono ?_); (case side1 => exact cZ (ccB an.out HB.out)); (case side2 => exact ao.out); rintro e w' ⟨rfl, ⟨nd, rfl⟩⟩; refine ⟨_, rfl, ?_⟩; (try (rw [drewN_self wc]; generalize hq_ : World.drewN wc _ = wc; have ak : Aside0 (wc.heap[av]? = some (.cells #[.int .u64 0, .int .u64 0, .int .u64 0] 32 (0, 0))) := ⟨by rw [← hq_]; exact (bZ aa)⟩; have al : Aside0 (Below w.heap.size w wc) := ⟨by rw [← hq_]; exact (lB HB)⟩; clear aa HB hq_; have aa := ak; have HB := al; clear ak al))) | ((with_reducible refine gate_callee (f := 84) rfl ?_); refine gL (some 38) Try.func84 #[.slice A1 l1.length c1] ?_; (with_reducible refine (gini_total.calls _ _ l1 af _ ?side1 ?side2 bs.out).mono ?_); (case side1 => exact cZ (ccB ar.out HB.out)); (case side2 => exact au.out); rintro e w' ⟨rfl, ⟨nd, rfl⟩⟩; refine ⟨_, rfl, ?_⟩; (try (rw [drewN_self wc]; generalize hq_ : World.drewN wc _ = wc; have ak : Aside0 (wc.heap[av]? = some (.cells #[.int .u64 0, .int .u64 0, .int .u64 0] 32 (0, 0))) := ⟨by rw [← hq_]; exact (bZ aa)⟩; have al : Aside0 (Below w.heap.size w wc) := ⟨by rw [← hq_]; exact (lB HB)⟩; clear aa HB hq_; have aa := ak; have HB := al; clear ak al))) | ((with_reducible refine gate_callee (f := 85) rfl ?_); refine gL (some 41) Try.func85 #[.slice A0 l0.length c0] ?_; (with_reducible refine (gini_squares.calls _ _ l0 am _ ?side1 ?side2 bt.out).mono ?_); (case side1 => exact cZ (ccB an.out HB.out)); (case side2 => exact ao.out); rintro e w' ⟨rfl, ⟨nd, rfl⟩⟩; refine ⟨_, rfl, ?_⟩; (try (rw [drewN_self wc]; generalize hq_ : World.drewN wc _ = wc; have ak : Aside0 (wc.heap[av]? = some (.cells #[.int .u64 0, .int .u64 0, .int .u64 0] 32 (0, 0))) := ⟨by rw [← hq_]; exact (bZ aa)⟩; have al : Aside0 (Below w.heap.size w wc) := ⟨by rw [← hq_]; exact (lB HB)⟩; clear aa HB hq_; have aa := ak; have HB := al; clear ak al))) | ((with_reducible refine gate_callee (f := 87) rfl ?_); refine gL (some 43) Try.func87 #[.int .u64 am, .int .u64 af] ?_; (with_reducible refine (prod_Mul.calls am af aw ax _ bu.out).mono ?_); rintro e ay ⟨rfl, hb⟩; refine ⟨_, rfl, ?_⟩; replace aa := bY hb aa; replace HB := aaM (lP (lB HB) hb); (try clear hb)) | ((with_reducible refine gate_callee (f := 85) rfl ?_); refine gL (some 45) Try.func85 #[.slice A1 l1.length c1] ?_; (with_reducible refine (gini_squares.calls _ _ l1 ai _ ?side1 ?side2 bv.out).mono ?_); (case side1 => exact cZ (ccB ar.out HB.out)); (case side2 => exact au.out); rintro e w' ⟨rfl, ⟨nd, rfl⟩⟩; refine ⟨_, rfl, ?_⟩; (try (rw [drewN_self ay]; generalize hq_ : World.drewN ay _ = ay; have ak : Aside0 (ay.heap[av]? = some (.cells #[.int .u64 0, .int .u64 0, .int .u64 0] 32 (0, 0))) := ⟨by rw [← hq_]; exact (bZ aa)⟩; have al : Aside0 (Below w.heap.size w ay) := ⟨by rw [← hq_]; exact (lB HB)⟩; clear aa HB hq_; have aa := ak; have HB := al; clear ak al; obtain ⟨_, _, _, _, _, _⟩ := bE3 aa.out))) | ((with_reducible refine gate_callee (f := 87) rfl ?_); refine gL (some 47) Try.func87 #[.int .u64 ai, .int .u64 ac] ?_; (with_reducible refine (prod_Mul.calls ai ac a2 a3 _ bw.out).mono ?_); rintro e ca ⟨rfl, hb⟩; refine ⟨_, rfl, ?_⟩; replace aa := bY hb aa; replace HB := aaM (lP (lB HB) hb); (try clear hb)) | ((with_reducible refine gate_callee (f := 86) rfl ?_); refine gL (some 48) Try.func86 #[.agg #[.int .u64 aw, .int .u64 ax], .agg #[.int .u64 a2, .int .u64 a3]] ?_; (with_reducible refine (prod_Add.calls aw ax a2 a3 a5 a6 bz _ b0.out).mono ?_); rintro e cb ⟨rfl, hb⟩; refine ⟨_, rfl, ?_⟩; replace aa := bY hb aa; replace HB := aaM (lP (lB HB) hb); (try clear hb)) | ((with_reducible refine gate_dst (N := 7) rfl ?_); (try (refine gate_guard (by rfl) ?_; dsimp only)); refine bxF w HB 7 #[.int .u64 0, .int .u64 0] 30 ?_; intro cc hg cd hb b1 HB b2; have ce := b2; obtain ⟨b3, b4⟩ := nS hg aa; replace aa := bY hb aa; clear hb hg; have := b4.out; have := b3.out; obtain ⟨_, _, _, _⟩ := bE2 b1.out; obtain ⟨_, _, _, _, _, _⟩ := bE3 aa.out))
    refine bodyPost_ret (results_cell_row rfl _ _ av 32 #[.int .u64 a5, .int .u64 a6, .int .u64 (IntKind.u64.wrap (ac * af))] (0, 0) _ rfl (bZ aa) Try.underlying32 rfl (by kernel_rfl)) rfl ?_
    exact ⟨eE, lB HB⟩

-- NOT PRINTED: function 79 (split_classes_score)

/-! ### split_classes_size: function 80 -/
def split_classes_size.l0 : Nat → Int → List Int → Int → Int → Option (Int)
 | 0, _, _, _, _ => none
 | k + 1, x3, x11, x12, x13 => if x13 < x12 then (if 0 ≤ x13 then (if x13 < (x11.length : Int) then (split_classes_size.l0 k (wrap64 (x3 + (rd x11 x13))) x11 x12 (wrap64 (x13 + 1))) else (none)) else (none)) else (some x3)
def split_classes_size.f (k : Nat) (l0_0 : List Int) : Option (Int) := (gini_May.f k l0_0).bind fun t152 => (if t152 = true then (split_classes_size.l0 k 0 l0_0 (l0_0.length : Int) 0) else (some 0))
theorem split_classes_size.mono_l : ∀ k, (∀ y0 y1 y2 y3, LeO (split_classes_size.l0 k y0 y1 y2 y3) (split_classes_size.l0 (k + 1) y0 y1 y2 y3))
 | 0 => fun _ _ _ _ r h => by simp [split_classes_size.l0] at h
 | k + 1 => by
  have ih0 := split_classes_size.mono_l k
  ·intro y0 y1 y2 y3
   unfold split_classes_size.l0
   with_reducible repeat' first | apply ih0 | apply gini_May.mono | apply LeO.refl | apply LeO.none | refine LeO.ite ?_ ?_ | refine LeO.bind ?_ (fun _ => ?_)
theorem split_classes_size.mono : ∀ a0 k, LeO (split_classes_size.f k a0) (split_classes_size.f (k + 1) a0) := by
 intro a0 k
 have ih0 := split_classes_size.mono_l k
 unfold split_classes_size.f
 with_reducible repeat' first | apply ih0 | apply gini_May.mono | apply LeO.refl | apply LeO.none | refine LeO.ite ?_ ?_ | refine LeO.bind ?_ (fun _ => ?_)
set_option maxHeartbeats 8000000 in
set_option maxRecDepth 100000 in
theorem split_classes_size.calls (k : Nat) (ac : Option Addr) (ae : Nat) (aa : List Int) (r : Int) (w : World) (an : Kd.C (Kd.int .i64) w ac aa.length aa) (ao : aa.length ≤ ae) (h : split_classes_size.f k aa = some r) :
  Calls Try.prog 80 #[.agg #[.slice ac aa.length ae]] w fun e w' => e = .returned (.int .i64 r) ∧ Below w.heap.size w w' := by
 have a0 := Try.underlying81
 have ai := aaM an
 have ap := aaM ao
 clear an ao
 have HB := aaM (Below.refl w.heap.size w)
 have H : ((gini_May.f k aa).bind fun ag => (if ag = true then (split_classes_size.l0 k 0 aa (aa.length : Int) 0) else (some 0))) = some r := h
 clear h
 replace H := ooB.mp H
 obtain ⟨ag, aq, H⟩ := H
 (try dsimp only at H)
 have A2 := aaM aq
 clear aq
 by_cases c3 : ag = true
 ·subst c3
  have H1 : (split_classes_size.l0 k 0 aa (aa.length : Int) 0) = some r := by rw [if_pos rfl] at H; exact H
  clear H; have H := H1; clear H1; have H' := aaM H; clear H; go_enter Try.func80, Try.ntmps80
  go_wp2_with (first | ((with_reducible refine gate_dst (N := 1) rfl ?_); refine bxF w HB 1 #[.slice ac aa.length ae] 81 ?_; intro ar hg w4 hb af HB aj; have av := aj; clear hb hg; obtain ⟨aw, ax⟩ := bE1 af.out) | ((with_reducible refine gate_callee (f := 83) rfl ?_); refine gL (some 8) Try.func83 #[.slice ac aa.length ae] ?_; (with_reducible refine (gini_May.calls k _ _ aa true _ ?side1 ?side2 A2.out).mono ?_); (case side1 => exact cZ (ccB ai.out HB.out)); (case side2 => exact ap.out); rintro e w' ⟨rfl, ⟨nd, rfl⟩⟩; refine ⟨_, rfl, ?_⟩))
  go_loopg [3, 13] k (fun kq v3 ay w' => ∃ (ah : Int) (ab : Int), v3 = .int .i64 ah ∧ ay = .int .i64 ab ∧ Aside0 (split_classes_size.l0 kq ah aa (aa.length : Int) ab = some r) ∧ Aside0 (kq ≤ k) ∧ Aside0 (w'.heap[ar]? = some (.cells #[(.slice ac aa.length ae)] 81 (0, 0))) ∧ Aside0 (Below w.heap.size w w'))
  case atStart => exact ⟨(0), (0), (eF), (eF), H', ⟨Nat.le_refl _⟩, ⟨bZ af⟩, ⟨lB HB⟩⟩
  case round =>
   clear H'; (try clear c3); (try clear aw); (try clear ax); obtain ⟨ah, ab, rfl, rfl, HA, au, af, HB⟩ := hrel
   cases gk with
   | zero => exact absurd HA.out (by simp [split_classes_size.l0])
   | succ k1 =>
    have H := HA.out; clear HA; simp only [split_classes_size.l0] at H
    by_cases c6 : ab < (aa.length : Int)
    ·rw [if_pos c6] at H
     have c6b0 : decide (ab < (aa.length : Int)) = true := decide_eq_true c6; clear c6
     by_cases c7 : 0 ≤ ab
     ·rw [if_pos c7] at H
      have c7b0 : decide (0 ≤ ab) = true := decide_eq_true c7; clear c7
      by_cases c8 : ab < (aa.length : Int)
      ·rw [if_pos c8] at H
       have c8b0 : decide (ab < (aa.length : Int)) = true := decide_eq_true c8; clear c8; have H' := aaM H; clear H; have ak : 0 ≤ (ab : Int) := of_decide_eq_true (by first | (with_reducible assumption) | assumption); have al : ab < (aa.length : Int) := of_decide_eq_true (by first | (with_reducible assumption) | assumption); obtain ⟨a1, az, am⟩ := Kd.at_int ai.out ab ak al
       cases az
       replace am := (HB.out.cell (World.block_lt_of_cell? w _ am)).trans am; replace ak := eq_true ak; replace al := eq_true al; go_wp2
       go_roundg k1
       case measure => have := au.out; omega
       case rel => exact ⟨(wrap64 (ah + (rd aa ab))), (wrap64 (ab + 1)), (eF), (eF), H', ⟨by have := au.out; omega⟩, ⟨bZ af⟩, ⟨lB HB⟩⟩
      ·rw [if_neg c8] at H
       exact absurd H (by simp)
     ·rw [if_neg c7] at H
      exact absurd H (by simp)
    ·rw [if_neg c6] at H
     have c6b0 : decide (ab < (aa.length : Int)) = false := decide_eq_false c6; clear c6; obtain rfl := Option.some.inj H; go_wp2
     all_goals (go_ret; exact ⟨by first | rfl | (simp [errW_none, errW_some] <;> rfl) | (simp [*, errW_none, errW_some] <;> rfl) | (simp_all; done), lB HB⟩)
 ·replace c3 := Bool.eq_false_iff.mpr c3
  subst c3
  have H1 : (some 0) = some r := by rw [if_neg (show ¬ (false = true) by decide)] at H; exact H
  clear H; have H := H1; clear H1; obtain rfl := Option.some.inj H; go_enter Try.func80, Try.ntmps80
  go_wp2_with (first | ((with_reducible refine gate_dst (N := 1) rfl ?_); refine bxF w HB 1 #[.slice ac aa.length ae] 81 ?_; intro ar hg w9 hb af HB aj; have av := aj; clear hb hg; obtain ⟨_, _⟩ := bE1 af.out) | ((with_reducible refine gate_callee (f := 83) rfl ?_); refine gL (some 8) Try.func83 #[.slice ac aa.length ae] ?_; (with_reducible refine (gini_May.calls k _ _ aa false _ ?side1 ?side2 A2.out).mono ?_); (case side1 => exact cZ (ccB ai.out HB.out)); (case side2 => exact ap.out); rintro e w' ⟨rfl, ⟨nd, rfl⟩⟩; refine ⟨_, rfl, ?_⟩))
  all_goals (go_ret; exact ⟨by first | rfl | (simp [errW_none, errW_some] <;> rfl) | (simp [*, errW_none, errW_some] <;> rfl) | (simp_all; done), lB HB⟩)

/-! ### prod_size: function 103 -/
def prod_size.f (a0 : Int) : Option (Int) := if a0 < 0 then (some (IntKind.u64.wrap (-(IntKind.u64.wrap (a0))))) else (some (IntKind.u64.wrap (a0)))
set_option maxHeartbeats 8000000 in
set_option maxRecDepth 100000 in
theorem prod_size.calls (a0 : Int) (r : Int) (w : World) (h : prod_size.f a0 = some r) :
  Calls Try.prog 103 #[.int .i64 a0] w fun e w' => e = .returned (.int .u64 r) ∧ Drawn0 w w' := by
 have H : (if a0 < 0 then (some (IntKind.u64.wrap (-(IntKind.u64.wrap (a0))))) else (some (IntKind.u64.wrap (a0)))) = some r := h
 clear h
 by_cases c2 : a0 < 0
 ·rw [if_pos c2] at H
  have c2b0 : decide (a0 < 0) = true := decide_eq_true c2; clear c2; obtain rfl := Option.some.inj H; go_enter Try.func103, Try.ntmps103; go_wp2
  all_goals (go_ret; exact ⟨eF, by repeat (first | exact Drawn0.refl _ | apply Drawn0.step)⟩)
 ·rw [if_neg c2] at H
  have c2b0 : decide (a0 < 0) = false := decide_eq_false c2; clear c2; obtain rfl := Option.some.inj H; go_enter Try.func103, Try.ntmps103; go_wp2
  all_goals (go_ret; exact ⟨eF, by repeat (first | exact Drawn0.refl _ | apply Drawn0.step)⟩)

/-! ### prod_Square: function 98 -/
def prod_Square.f (a0 : Int) : Option (Int × Int) := (prod_size.f a0).bind fun t155 => ((prod_size.f a0).bind fun t156 => ((prod_Mul.f t155 t156).bind fun bt157 => (some (bt157.1, bt157.2))))
set_option maxHeartbeats 8000000 in
set_option maxRecDepth 100000 in
theorem prod_Square.calls (a0 : Int) (r1 : Int) (r2 : Int) (w : World) (h : prod_Square.f a0 = some (r1, r2)) :
  Calls Try.prog 98 #[.int .i64 a0] w fun e w' => e = .returned (.agg #[.int .u64 r1, .int .u64 r2]) ∧ Below w.heap.size w w' := by
 have au := Try.underlying30
 have HB := aaM (Below.refl w.heap.size w)
 have H : ((prod_size.f a0).bind fun ab => ((prod_size.f a0).bind fun ae => ((prod_Mul.f ab ae).bind fun ac => (some (ac.1, ac.2))))) = some (r1, r2) := h
 clear h
 replace H := ooB.mp H
 obtain ⟨ab, ak, H⟩ := H
 (try dsimp only at H)
 have A2 := aaM ak
 clear ak
 replace H := ooB.mp H
 obtain ⟨ae, al, H⟩ := H
 (try dsimp only at H)
 have A3 := aaM al
 obtain rfl : ab = ae := Option.some.inj (A2.out.symm.trans A3.out)
 clear al
 replace H := ooB.mp H
 obtain ⟨⟨ah, ai⟩, am, H⟩ := H
 (try dsimp only at H)
 have A4 := aaM am
 clear am
 simp only [Option.some.injEq, Prod.mk.injEq] at H
 obtain ⟨rfl, rfl⟩ := H
 go_enter Try.func98, Try.ntmps98
 go_wp2_with (first | ((with_reducible refine gate_dst (N := 2) rfl ?_); refine bxF w HB 2 #[.int .u64 0, .int .u64 0] 30 ?_; intro aj hg w5 hb aa HB an; have av := an; clear hb hg) | ((with_reducible refine gate_callee (f := 103) rfl ?_); refine gL (some 4) Try.func103 #[.int .i64 a0] ?_; (with_reducible refine (prod_size.calls a0 ab _ A2.out).mono ?_); rintro e w' ⟨rfl, ⟨nd, rfl⟩⟩; refine ⟨_, rfl, ?_⟩; (try (rw [drewN_self w5]; generalize hq_ : World.drewN w5 _ = w5; have af : Aside0 (w5.heap[aj]? = some (.cells #[.int .u64 0, .int .u64 0] 30 (0, 0))) := ⟨by rw [← hq_]; exact (bZ aa)⟩; have ag : Aside0 (Below w.heap.size w w5) := ⟨by rw [← hq_]; exact (lB HB)⟩; clear aa HB hq_; have aa := af; have HB := ag; clear af ag; obtain ⟨ao, ap, aq, ar⟩ := bE2 aa.out))) | ((with_reducible refine gate_callee (f := 103) rfl ?_); refine gL (some 6) Try.func103 #[.int .i64 a0] ?_; (with_reducible refine (prod_size.calls a0 ab _ A3.out).mono ?_); rintro e w' ⟨rfl, ⟨nd, rfl⟩⟩; refine ⟨_, rfl, ?_⟩; (try (rw [drewN_self w5]; generalize hq_ : World.drewN w5 _ = w5; have af : Aside0 (w5.heap[aj]? = some (.cells #[.int .u64 0, .int .u64 0] 30 (0, 0))) := ⟨by rw [← hq_]; exact (bZ aa)⟩; have ag : Aside0 (Below w.heap.size w w5) := ⟨by rw [← hq_]; exact (lB HB)⟩; clear aa HB hq_; have aa := af; have HB := ag; clear af ag; obtain ⟨ao, ap, aq, ar⟩ := bE2 aa.out))) | ((with_reducible refine gate_callee (f := 87) rfl ?_); refine gL (some 7) Try.func87 #[.int .u64 ab, .int .u64 ab] ?_; (with_reducible refine (prod_Mul.calls ab ab ah ai _ A4.out).mono ?_); rintro e w6 ⟨rfl, hb⟩; refine ⟨_, rfl, ?_⟩; replace aa := bY hb aa; replace HB := aaM (lP (lB HB) hb); (try clear hb); obtain ⟨_, _, _, _⟩ := bE2 aa.out))
 refine bodyPost_ret (results_cell_row rfl _ _ aj 30 #[.int .u64 ah, .int .u64 ai] (0, 0) _ rfl (bZ aa) Try.underlying30 rfl (by kernel_rfl)) rfl ?_
 exact ⟨eE, lB HB⟩

/-! ### spread_none: function 100 -/
def spread_none.f  : Option (Int × Int × Int) := some (0, 0, 0)
set_option maxHeartbeats 8000000 in
set_option maxRecDepth 100000 in
theorem spread_none.calls  (r1 : Int) (r2 : Int) (r3 : Int) (w : World) (h : spread_none.f  = some (r1, r2, r3)) :
  Calls Try.prog 100 #[] w fun e w' => e = .returned (.agg #[.int .i64 r1, .int .i64 r2, .int .i64 r3]) ∧ Below w.heap.size w w' := by
 have ae := Try.underlying54
 have HB := aaM (Below.refl w.heap.size w)
 have H : (some (0, 0, 0)) = some (r1, r2, r3) := h
 clear h
 simp only [Option.some.injEq, Prod.mk.injEq] at H
 obtain ⟨rfl, rfl, rfl⟩ := H
 go_enter Try.func100, Try.ntmps100
 go_wp2_with (first | ((with_reducible refine gate_dst (N := 0) rfl ?_); refine bxF w HB 0 #[.int .i64 0, .int .i64 0, .int .i64 0] 54 ?_; intro ab hg w1 hb aa HB ac; have af := ac; clear hb hg; obtain ⟨_, _, _, _, _, _⟩ := bE3 aa.out))
 refine bodyPost_ret (results_cell_row rfl _ _ ab 54 #[.int .i64 0, .int .i64 0, .int .i64 0] (0, 0) _ rfl (bZ aa) Try.underlying54 rfl (by kernel_rfl)) rfl ?_
 exact ⟨eE, lB HB⟩

/-! ### cmp_isNaN_uint64: function 62 -/
def cmp_isNaN_uint64.f (a0 : Int) : Option (Bool) := some (a0 != a0)
set_option maxHeartbeats 8000000 in
set_option maxRecDepth 100000 in
theorem cmp_isNaN_uint64.calls (a0 : Int) (r : Bool) (w : World) (h : cmp_isNaN_uint64.f a0 = some r) :
  Calls Try.prog 62 #[.int .u64 a0] w fun e w' => e = .returned (.bool r) ∧ Drawn0 w w' := by
 have H : (some (a0 != a0)) = some r := h
 clear h
 obtain rfl := Option.some.inj H
 go_enter Try.func62, Try.ntmps62
 go_wp2
 all_goals (go_ret; exact ⟨eF, by repeat (first | exact Drawn0.refl _ | apply Drawn0.step)⟩)

end Go.Proofs.Ytancajnbjmcamaa.QSplitBest
