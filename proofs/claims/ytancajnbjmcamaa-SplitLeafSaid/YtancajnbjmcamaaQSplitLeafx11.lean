-- Written by a program of this session (wip/tools/mkprint.py over the kit's print); Lean checks it.
import Derived.Test.YtancajnbjmcamaaQSplitLeafx0
import Derived.Test.YtancajnbjmcamaaQSplitLeafx5
import Derived.Test.YtancajnbjmcamaaQSplitLeafx6
import Derived.Test.YtancajnbjmcamaaQSplitLeafx10
namespace Go.Proofs.Ytancajnbjmcamaa.QSplitLeaf
open Go.RowKit Go.Proofs.YtancajnbjmcamaaW.PrintWords Go.Proofs.YtancajnbjmcamaaW.PrintLast Go.Proofs.YtancajnbjmcamaaW.PrintMore
attribute [local go_sem] max2_int min2_int max_two min_two max_three min_three max_four min_four   -- for this text's walks alone
set_option linter.unusedVariables false
set_option linter.unusedSimpArgs false

-- NOT PRINTED: function 19 (split_bins)

/-! ### frac_Right: function 20 -/
def frac_Right.f (a0_0 : Int) (a0_1 : Int) (a0_2 : Int) : Option (Bool) := some (a0_2 != 0)
set_option maxHeartbeats 8000000 in
set_option maxRecDepth 100000 in
theorem frac_Right.calls (a0_0 : Int) (a0_1 : Int) (a0_2 : Int) (r : Bool) (w : World) (h : frac_Right.f a0_0 a0_1 a0_2 = some r) :
  Calls Try.prog 20 #[.agg #[.int .u64 a0_0, .int .u64 a0_1, .int .u64 a0_2]] w fun e w' => e = .returned (.bool r) ∧ Below w.heap.size w w' := by
 have hu32 := Try.underlying32
 have HB := aaM (Below.refl w.heap.size w)
 have H : (some (a0_2 != 0)) = some r := h
 clear h
 obtain rfl := Option.some.inj H
 go_enter Try.func20, Try.ntmps20
 go_wp2_with (first | ((with_reducible refine gate_dst (N := 1) rfl ?_); refine box_event ?hg (N := 1) ?hd (cs := #[.int .u64 a0_0, .int .u64 a0_1, .int .u64 a0_2]) (t := 32) ?hr ?_; (case hd => rfl); (case hg => rfl); (case hr => first | (go_simp; done) | (go_simp; rfl)); intro gb249 hg w2 hbox hb; have hP_ := lQ (by repeat (first | (with_reducible first | exact HB.out | apply lA | apply lN | apply lD) | exact HB.out)) hb; replace HB := aaM hP_.1; have BK249 := aaM (hbox); have GW249 := aaM (gQ hg hP_.2); have GE249 := aaM (gQ hg hP_.2); clear hP_ hb hbox hg; obtain ⟨hcz3_0, hcz3_1, hcz3_2, hfz3_0, hfz3_1, hfz3_2⟩ := bE3 BK249.out))
 all_goals (go_ret; exact ⟨by first | rfl | (simp [errW_none, errW_some] <;> rfl) | (simp [*, errW_none, errW_some] <;> rfl) | (simp_all; done), by repeat (first | (with_reducible first | exact HB.out | apply lA | apply lN | apply lD | refine lS ?_ GE249.out) | exact HB.out)⟩)

/-! ### cmp_isNaN_int: function 51 -/
def cmp_isNaN_int.f (a0 : Int) : Option (Bool) := some (a0 != a0)
set_option maxHeartbeats 8000000 in
set_option maxRecDepth 100000 in
theorem cmp_isNaN_int.calls (a0 : Int) (r : Bool) (w : World) (h : cmp_isNaN_int.f a0 = some r) :
  Calls Try.prog 51 #[.int .i64 a0] w fun e w' => e = .returned (.bool r) ∧ Drawn0 w w' := by
 have H : (some (a0 != a0)) = some r := h
 clear h
 obtain rfl := Option.some.inj H
 go_enter Try.func51, Try.ntmps51
 go_wp2
 all_goals (go_ret; exact ⟨by first | rfl | (simp; done) | (simp [*]; done), by repeat (first | exact Drawn0.refl _ | apply Drawn0.step)⟩)

/-! ### cmp_Compare_int: function 35 -/
def cmp_Compare_int.f (a0 : Int) (a1 : Int) : Option (Int) := (cmp_isNaN_int.f a0).bind fun t250 => ((cmp_isNaN_int.f a1).bind fun t251 => (if t250 = true then (if t251 = true then (some 0) else (some (-1))) else (if t251 = true then (some 1) else (if a0 < a1 then (some (-1)) else (if a0 > a1 then (some 1) else (some 0))))))
set_option maxHeartbeats 8000000 in
set_option maxRecDepth 100000 in
theorem cmp_Compare_int.calls (a0 : Int) (a1 : Int) (r : Int) (w : World) (h : cmp_Compare_int.f a0 a1 = some r) :
  Calls Try.prog 35 #[.int .i64 a0, .int .i64 a1] w fun e w' => e = .returned (.int .i64 r) ∧ Drawn0 w w' := by
 have H : ((cmp_isNaN_int.f a0).bind fun t250 => ((cmp_isNaN_int.f a1).bind fun t251 => (if t250 = true then (if t251 = true then (some 0) else (some (-1))) else (if t251 = true then (some 1) else (if a0 < a1 then (some (-1)) else (if a0 > a1 then (some 1) else (some 0))))))) = some r := h
 clear h
 replace H := ooB.mp H
 obtain ⟨t250, A30, H⟩ := H
 replace H : ((cmp_isNaN_int.f a1).bind fun t251 => (if t250 = true then (if t251 = true then (some 0) else (some (-1))) else (if t251 = true then (some 1) else (if a0 < a1 then (some (-1)) else (if a0 > a1 then (some 1) else (some 0)))))) = some r := H
 have A3 := aaM A30
 clear A30
 replace H := ooB.mp H
 obtain ⟨t251, A40, H⟩ := H
 replace H : (if t250 = true then (if t251 = true then (some 0) else (some (-1))) else (if t251 = true then (some 1) else (if a0 < a1 then (some (-1)) else (if a0 > a1 then (some 1) else (some 0))))) = some r := H
 have A4 := aaM A40
 clear A40
 by_cases c5 : t250 = true
 ·subst c5
  have H1 : (if t251 = true then (some 0) else (some (-1))) = some r := by rw [if_pos rfl] at H; exact H
  clear H
  have H := H1
  clear H1
  by_cases c6 : t251 = true
  ·subst c6
   have H1 : (some 0) = some r := by rw [if_pos rfl] at H; exact H
   clear H
   have H := H1
   clear H1
   obtain rfl := Option.some.inj H
   go_enter Try.func35, Try.ntmps35
   go_wp2_with (first | ((with_reducible refine gate_callee (f := 51) rfl ?_); refine goesL_ (some 8) rfl rfl Try.func51 (by kernel_rfl) rfl #[.int .i64 a0] rfl (by (try simp only [mmT, mmC, mmN]); first | done | rfl | (simp only [ddD, ddT]; rfl)) ?_; (with_reducible refine (cmp_isNaN_int.calls a0 true _ A3.out).mono ?_); rintro e w' ⟨rfl, ⟨nd, rfl⟩⟩; refine ⟨_, rfl, ?_⟩) | ((with_reducible refine gate_callee (f := 51) rfl ?_); refine goesL_ (some 10) rfl rfl Try.func51 (by kernel_rfl) rfl #[.int .i64 a1] rfl (by (try simp only [mmT, mmC, mmN]); first | done | rfl | (simp only [ddD, ddT]; rfl)) ?_; (with_reducible refine (cmp_isNaN_int.calls a1 true _ A4.out).mono ?_); rintro e w' ⟨rfl, ⟨nd, rfl⟩⟩; refine ⟨_, rfl, ?_⟩))
   all_goals (go_ret; exact ⟨by first | rfl | (simp; done) | (simp [*]; done), by repeat (first | exact Drawn0.refl _ | apply Drawn0.step)⟩)
  ·replace c6 := Bool.eq_false_iff.mpr c6
   subst c6
   have H1 : (some (-1)) = some r := by rw [if_neg (show ¬ (false = true) by decide)] at H; exact H
   clear H
   have H := H1
   clear H1
   obtain rfl := Option.some.inj H
   go_enter Try.func35, Try.ntmps35
   go_wp2_with (first | ((with_reducible refine gate_callee (f := 51) rfl ?_); refine goesL_ (some 8) rfl rfl Try.func51 (by kernel_rfl) rfl #[.int .i64 a0] rfl (by (try simp only [mmT, mmC, mmN]); first | done | rfl | (simp only [ddD, ddT]; rfl)) ?_; (with_reducible refine (cmp_isNaN_int.calls a0 true _ A3.out).mono ?_); rintro e w' ⟨rfl, ⟨nd, rfl⟩⟩; refine ⟨_, rfl, ?_⟩) | ((with_reducible refine gate_callee (f := 51) rfl ?_); refine goesL_ (some 10) rfl rfl Try.func51 (by kernel_rfl) rfl #[.int .i64 a1] rfl (by (try simp only [mmT, mmC, mmN]); first | done | rfl | (simp only [ddD, ddT]; rfl)) ?_; (with_reducible refine (cmp_isNaN_int.calls a1 false _ A4.out).mono ?_); rintro e w' ⟨rfl, ⟨nd, rfl⟩⟩; refine ⟨_, rfl, ?_⟩))
   all_goals (go_ret; exact ⟨by first | rfl | (simp; done) | (simp [*]; done), by repeat (first | exact Drawn0.refl _ | apply Drawn0.step)⟩)
 ·replace c5 := Bool.eq_false_iff.mpr c5
  subst c5
  have H1 : (if t251 = true then (some 1) else (if a0 < a1 then (some (-1)) else (if a0 > a1 then (some 1) else (some 0)))) = some r := by rw [if_neg (show ¬ (false = true) by decide)] at H; exact H
  clear H
  have H := H1
  clear H1
  by_cases c7 : t251 = true
  ·subst c7
   have H1 : (some 1) = some r := by rw [if_pos rfl] at H; exact H
   clear H
   have H := H1
   clear H1
   obtain rfl := Option.some.inj H
   go_enter Try.func35, Try.ntmps35
   go_wp2_with (first | ((with_reducible refine gate_callee (f := 51) rfl ?_); refine goesL_ (some 8) rfl rfl Try.func51 (by kernel_rfl) rfl #[.int .i64 a0] rfl (by (try simp only [mmT, mmC, mmN]); first | done | rfl | (simp only [ddD, ddT]; rfl)) ?_; (with_reducible refine (cmp_isNaN_int.calls a0 false _ A3.out).mono ?_); rintro e w' ⟨rfl, ⟨nd, rfl⟩⟩; refine ⟨_, rfl, ?_⟩) | ((with_reducible refine gate_callee (f := 51) rfl ?_); refine goesL_ (some 10) rfl rfl Try.func51 (by kernel_rfl) rfl #[.int .i64 a1] rfl (by (try simp only [mmT, mmC, mmN]); first | done | rfl | (simp only [ddD, ddT]; rfl)) ?_; (with_reducible refine (cmp_isNaN_int.calls a1 true _ A4.out).mono ?_); rintro e w' ⟨rfl, ⟨nd, rfl⟩⟩; refine ⟨_, rfl, ?_⟩))
   all_goals (go_ret; exact ⟨by first | rfl | (simp; done) | (simp [*]; done), by repeat (first | exact Drawn0.refl _ | apply Drawn0.step)⟩)
  ·replace c7 := Bool.eq_false_iff.mpr c7
   subst c7
   have H1 : (if a0 < a1 then (some (-1)) else (if a0 > a1 then (some 1) else (some 0))) = some r := by rw [if_neg (show ¬ (false = true) by decide)] at H; exact H
   clear H
   have H := H1
   clear H1
   by_cases c8 : a0 < a1
   ·rw [if_pos c8] at H
    have c8b0 : decide (a0 < a1) = true := decide_eq_true c8
    clear c8
    obtain rfl := Option.some.inj H
    go_enter Try.func35, Try.ntmps35
    go_wp2_with (first | ((with_reducible refine gate_callee (f := 51) rfl ?_); refine goesL_ (some 8) rfl rfl Try.func51 (by kernel_rfl) rfl #[.int .i64 a0] rfl (by (try simp only [mmT, mmC, mmN]); first | done | rfl | (simp only [ddD, ddT]; rfl)) ?_; (with_reducible refine (cmp_isNaN_int.calls a0 false _ A3.out).mono ?_); rintro e w' ⟨rfl, ⟨nd, rfl⟩⟩; refine ⟨_, rfl, ?_⟩) | ((with_reducible refine gate_callee (f := 51) rfl ?_); refine goesL_ (some 10) rfl rfl Try.func51 (by kernel_rfl) rfl #[.int .i64 a1] rfl (by (try simp only [mmT, mmC, mmN]); first | done | rfl | (simp only [ddD, ddT]; rfl)) ?_; (with_reducible refine (cmp_isNaN_int.calls a1 false _ A4.out).mono ?_); rintro e w' ⟨rfl, ⟨nd, rfl⟩⟩; refine ⟨_, rfl, ?_⟩))
    all_goals (go_ret; exact ⟨by first | rfl | (simp; done) | (simp [*]; done), by repeat (first | exact Drawn0.refl _ | apply Drawn0.step)⟩)
   ·rw [if_neg c8] at H
    have c8b0 : decide (a0 < a1) = false := decide_eq_false c8
    clear c8
    by_cases c9 : a0 > a1
    ·rw [if_pos c9] at H
     have c9b0 : decide (a1 < a0) = true := decide_eq_true c9
     clear c9
     obtain rfl := Option.some.inj H
     go_enter Try.func35, Try.ntmps35
     go_wp2_with (first | ((with_reducible refine gate_callee (f := 51) rfl ?_); refine goesL_ (some 8) rfl rfl Try.func51 (by kernel_rfl) rfl #[.int .i64 a0] rfl (by (try simp only [mmT, mmC, mmN]); first | done | rfl | (simp only [ddD, ddT]; rfl)) ?_; (with_reducible refine (cmp_isNaN_int.calls a0 false _ A3.out).mono ?_); rintro e w' ⟨rfl, ⟨nd, rfl⟩⟩; refine ⟨_, rfl, ?_⟩) | ((with_reducible refine gate_callee (f := 51) rfl ?_); refine goesL_ (some 10) rfl rfl Try.func51 (by kernel_rfl) rfl #[.int .i64 a1] rfl (by (try simp only [mmT, mmC, mmN]); first | done | rfl | (simp only [ddD, ddT]; rfl)) ?_; (with_reducible refine (cmp_isNaN_int.calls a1 false _ A4.out).mono ?_); rintro e w' ⟨rfl, ⟨nd, rfl⟩⟩; refine ⟨_, rfl, ?_⟩))
     all_goals (go_ret; exact ⟨by first | rfl | (simp; done) | (simp [*]; done), by repeat (first | exact Drawn0.refl _ | apply Drawn0.step)⟩)
    ·rw [if_neg c9] at H
     have c9b0 : decide (a1 < a0) = false := decide_eq_false c9
     clear c9
     obtain rfl := Option.some.inj H
     go_enter Try.func35, Try.ntmps35
     go_wp2_with (first | ((with_reducible refine gate_callee (f := 51) rfl ?_); refine goesL_ (some 8) rfl rfl Try.func51 (by kernel_rfl) rfl #[.int .i64 a0] rfl (by (try simp only [mmT, mmC, mmN]); first | done | rfl | (simp only [ddD, ddT]; rfl)) ?_; (with_reducible refine (cmp_isNaN_int.calls a0 false _ A3.out).mono ?_); rintro e w' ⟨rfl, ⟨nd, rfl⟩⟩; refine ⟨_, rfl, ?_⟩) | ((with_reducible refine gate_callee (f := 51) rfl ?_); refine goesL_ (some 10) rfl rfl Try.func51 (by kernel_rfl) rfl #[.int .i64 a1] rfl (by (try simp only [mmT, mmC, mmN]); first | done | rfl | (simp only [ddD, ddT]; rfl)) ?_; (with_reducible refine (cmp_isNaN_int.calls a1 false _ A4.out).mono ?_); rintro e w' ⟨rfl, ⟨nd, rfl⟩⟩; refine ⟨_, rfl, ?_⟩))
     all_goals (go_ret; exact ⟨by first | rfl | (simp; done) | (simp [*]; done), by repeat (first | exact Drawn0.refl _ | apply Drawn0.step)⟩)

/-! ### frac_rank: function 36 -/
def frac_rank.f (a0 : Bool) : Option (Int) := if a0 = true then (some 1) else (some 0)
set_option maxHeartbeats 8000000 in
set_option maxRecDepth 100000 in
theorem frac_rank.calls (a0 : Bool) (r : Int) (w : World) (h : frac_rank.f a0 = some r) :
  Calls Try.prog 36 #[.bool a0] w fun e w' => e = .returned (.int .i64 r) ∧ Drawn0 w w' := by
 have H : (if a0 = true then (some 1) else (some 0)) = some r := h
 clear h
 by_cases c2 : a0 = true
 ·subst c2
  have H1 : (some 1) = some r := by rw [if_pos rfl] at H; exact H
  clear H
  have H := H1
  clear H1
  obtain rfl := Option.some.inj H
  go_enter Try.func36, Try.ntmps36
  go_wp2
  all_goals (go_ret; exact ⟨by first | rfl | (simp; done) | (simp [*]; done), by repeat (first | exact Drawn0.refl _ | apply Drawn0.step)⟩)
 ·replace c2 := Bool.eq_false_iff.mpr c2
  subst c2
  have H1 : (some 0) = some r := by rw [if_neg (show ¬ (false = true) by decide)] at H; exact H
  clear H
  have H := H1
  clear H1
  obtain rfl := Option.some.inj H
  go_enter Try.func36, Try.ntmps36
  go_wp2
  all_goals (go_ret; exact ⟨by first | rfl | (simp; done) | (simp [*]; done), by repeat (first | exact Drawn0.refl _ | apply Drawn0.step)⟩)

/-! ### prod_CmpLong: function 37 -/
theorem partA87 (xs : Array Value) (i : Nat) (v : Value) (w : World) (h : xs[i]? = some v) : (part 28 xs i).run Try.prog w = .ok v w := by
 have hs : ∀ w, (sizeOf 28).run Try.prog w = .ok 1 w := fun _ => by kernel_rfl
 unfold part
 simp [hs, h]
set_option maxRecDepth 100000 in
theorem eqArr87 (d : Nat) (w : World) (x0 x1 x2 y0 y1 y2 : Int) :
  (Op.equalIn (d + 2) 87 (.agg #[.int .u64 x0, .int .u64 x1, .int .u64 x2]) (.agg #[.int .u64 y0, .int .u64 y1, .int .u64 y2])).run Try.prog w = .ok (x0 == y0 && (x1 == y1 && x2 == y2)) w := by
 have hu49 := Try.underlying87
 have hu26 := Try.underlying28
 have hs : ∀ w, (sizeOf 28).run Try.prog w = .ok 1 w := fun _ => by kernel_rfl
 rw [Op.equalIn]
 simp [run_underlying hu49, hs, List.range', partA87, run_equalIn_int w d 28 .u64 .u64 _ _ hu26]
 by_cases h0 : x0 = y0
 ·by_cases h1 : x1 = y1
  ·by_cases h2 : x2 = y2 <;> simp [h0, h1, h2]
  ·simp [h0, h1]
 ·simp [h0]
attribute [local go_sem high] eqArr87
def prod_CmpLong.f (a0 a1 a2 b0 b1 b2 : Int) : Option Int := if a0 = b0 then (if a1 = b1 then (if a2 = b2 then some 0 else cmp_Compare_uint64.f a2 b2) else cmp_Compare_uint64.f a1 b1) else cmp_Compare_uint64.f a0 b0
set_option maxHeartbeats 8000000 in
set_option maxRecDepth 100000 in
theorem prod_CmpLong.calls (a0 a1 a2 b0 b1 b2 : Int) (r : Int) (w : World) (h : prod_CmpLong.f a0 a1 a2 b0 b1 b2 = some r) :
  Calls Try.prog 37 #[.agg #[.int .u64 a0, .int .u64 a1, .int .u64 a2], .agg #[.int .u64 b0, .int .u64 b1, .int .u64 b2]] w fun e w' => e = .returned (.int .i64 r) ∧ Below w.heap.size w w' := by
 have hu49 := Try.underlying87
 have hu26 := Try.underlying28
 have HB := aaM (Below.refl w.heap.size w)
 have HF := aaM h
 clear h
 by_cases hall : (a0 == b0 && (a1 == b1 && a2 == b2)) = true
 ·have e0 : a0 = b0 ∧ a1 = b1 ∧ a2 = b2 := by simpa using hall
  obtain ⟨rfl, rfl, rfl⟩ := e0
  have hr : r = 0 := by
   have := HF.out
   unfold prod_CmpLong.f at this
   rw [if_pos rfl, if_pos rfl, if_pos rfl] at this
   exact (Option.some.inj this).symm
  subst hr
  clear hall HF
  go_enter Try.func37, Try.ntmps37
  go_wp2_with (first | ((with_reducible refine gate_dst (N := 2) rfl ?_); refine box_event ?hg (N := 2) ?hd (cs := #[.int .u64 a0, .int .u64 a1, .int .u64 a2]) (t := 87) ?hr ?_; (case hd => rfl); (case hg => rfl); (case hr => first | (go_simp; done) | (go_simp; rfl)); intro gb122 hg w3 hbox hb; have hP_ := lQ (by repeat (first | (with_reducible first | exact HB.out | apply lA | apply lN | apply lD) | exact HB.out)) hb; replace HB := aaM hP_.1; have BK122 := aaM (hbox); have GW122 := aaM (gQ hg hP_.2); have GE122 := aaM (gQ hg hP_.2); clear hP_ hb hbox hg) | ((with_reducible refine gate_dst (N := 3) rfl ?_); refine box_event ?hg (N := 3) ?hd (cs := #[.int .u64 a0, .int .u64 a1, .int .u64 a2]) (t := 87) ?hr ?_; (case hd => rfl); (case hg => rfl); (case hr => first | (go_simp; done) | (go_simp; rfl)); intro gb123 hg w4 hbox hb; replace BK122 := aaM (bX hb BK122.out); replace HB := aaM (lP (by repeat (first | (with_reducible first | exact HB.out | apply lA | apply lN | apply lD | refine lS ?_ GE122.out) | exact HB.out)) hb); have BK123 := aaM (hbox); clear hb hbox hg; obtain ⟨hcz6_0, hcz6_1, hcz6_2, -, -, -⟩ := bE3 BK122.out; obtain ⟨hcz7_0, hcz7_1, hcz7_2, -, -, -⟩ := bE3 BK123.out))
  go_ret
  exact ⟨rfl, HB.out⟩
 ·have HN : Aside0 (¬ (a0 = b0 ∧ a1 = b1 ∧ a2 = b2)) := ⟨by simpa using hall⟩
  have hall := Bool.eq_false_iff.2 hall
  go_enter Try.func37, Try.ntmps37
  go_wp2_with (first | ((with_reducible refine gate_dst (N := 2) rfl ?_); refine box_event ?hg (N := 2) ?hd (cs := #[.int .u64 a0, .int .u64 a1, .int .u64 a2]) (t := 87) ?hr ?_; (case hd => rfl); (case hg => rfl); (case hr => first | (go_simp; done) | (go_simp; rfl)); intro gb122 hg w3 hbox hb; have hP_ := lQ (by repeat (first | (with_reducible first | exact HB.out | apply lA | apply lN | apply lD) | exact HB.out)) hb; replace HB := aaM hP_.1; have BK122 := aaM (hbox); have GW122 := aaM (gQ hg hP_.2); have GE122 := aaM (gQ hg hP_.2); clear hP_ hb hbox hg) | ((with_reducible refine gate_dst (N := 3) rfl ?_); refine box_event ?hg (N := 3) ?hd (cs := #[.int .u64 b0, .int .u64 b1, .int .u64 b2]) (t := 87) ?hr ?_; (case hd => rfl); (case hg => rfl); (case hr => first | (go_simp; done) | (go_simp; rfl)); intro gb123 hg w4 hbox hb; replace BK122 := aaM (bX hb BK122.out); replace HB := aaM (lP (by repeat (first | (with_reducible first | exact HB.out | apply lA | apply lN | apply lD | refine lS ?_ GE122.out) | exact HB.out)) hb); have BK123 := aaM (hbox); clear hb hbox hg; obtain ⟨hcz6_0, hcz6_1, hcz6_2, -, -, -⟩ := bE3 BK122.out; obtain ⟨hcz7_0, hcz7_1, hcz7_2, -, -, -⟩ := bE3 BK123.out))
  go_loopw [9] (fun v9 wr => ∃ k : Nat, v9 = .int .i64 (k : Int) ∧ Aside0 (k ≤ 3 ∧ (0 < k → a0 = b0) ∧ (1 < k → a1 = b1) ∧ (2 < k → a2 = b2)) ∧ Drawn0 w4 wr) (fun v9 _ => 3 - (intOf v9).toNat)
  case atStart => exact ⟨0, rfl, ⟨by omega, by omega, by omega, by omega⟩, Drawn0.refl _⟩
  case round =>
   obtain ⟨k, rfl, HK, ⟨m1, rfl⟩⟩ := hrel
   clear hall
   have hk : k = 0 ∨ k = 1 ∨ k = 2 ∨ k = 3 := by have := HK.out.1; omega
   rcases hk with rfl | rfl | rfl | rfl
   ·by_cases hd : a0 = b0
    ·have hdb : (a0 != b0) = false := by rw [hd]; simp
     have HD := aaM hd
     clear hd
     go_wp2
     repeat (go_quiet (fail); try go_wp2)
     go_roundw
     case rel => exact ⟨1, rfl, ⟨by omega, fun _ => HD.out, fun _ => by omega, fun _ => by omega⟩, by repeat (first | exact Drawn0.refl _ | apply Drawn0.step)⟩
     case measure => simp [intOf]
    ·have hdb : (a0 != b0) = true := bne_iff_ne.2 hd
     have HC : Aside0 (cmp_Compare_uint64.f a0 b0 = some r) := ⟨by
      have := HF.out
      unfold prod_CmpLong.f at this
      rwa [if_neg hd] at this⟩
     clear hd
     go_wp2
     go_quiet (fail)
     go_wp2
     have HW : Drawn0 w4 ((w4.drewN m1).drewN nq) := by repeat (first | exact Drawn0.refl _ | apply Drawn0.step)
     have hcA : ((w4.drewN m1).drewN nq).cell? ⟨gb122, 0, none⟩ = some (.int .u64 a0) := by rw [World.cell?_drewN, World.cell?_drewN]; exact hcz6_0
     have hcB : ((w4.drewN m1).drewN nq).cell? ⟨gb123, 0, none⟩ = some (.int .u64 b0) := by rw [World.cell?_drewN, World.cell?_drewN]; exact hcz7_0
     generalize (w4.drewN m1).drewN nq = W5 at *
     go_quiet ((go_at_call 52; exact Calls.quiet_of ((cmp_Compare_uint64.calls _ _ r _ HC.out).mono fun e w' ⟨he, hd⟩ => ⟨he, hd.out⟩)))
     go_wp2
     obtain ⟨m5, rfl⟩ := HW.out
     go_ret
     exact ⟨rfl, by repeat (first | exact HB.out | apply lN | apply lD)⟩
   ·by_cases hd : a1 = b1
    ·have hdb : (a1 != b1) = false := by rw [hd]; simp
     have HD := aaM hd
     clear hd
     go_wp2
     repeat (go_quiet (fail); try go_wp2)
     go_roundw
     case rel => exact ⟨2, rfl, ⟨by omega, fun _ => HK.out.2.1 (by omega), fun _ => HD.out, fun _ => by omega⟩, by repeat (first | exact Drawn0.refl _ | apply Drawn0.step)⟩
     case measure => simp [intOf]
    ·have hdb : (a1 != b1) = true := bne_iff_ne.2 hd
     have HC : Aside0 (cmp_Compare_uint64.f a1 b1 = some r) := ⟨by
      have := HF.out
      unfold prod_CmpLong.f at this
      rwa [if_pos (HK.out.2.1 (by omega)), if_neg hd] at this⟩
     clear hd
     go_wp2
     go_quiet (fail)
     go_wp2
     have HW : Drawn0 w4 ((w4.drewN m1).drewN nq) := by repeat (first | exact Drawn0.refl _ | apply Drawn0.step)
     have hcA : ((w4.drewN m1).drewN nq).cell? ⟨gb122, 1, none⟩ = some (.int .u64 a1) := by rw [World.cell?_drewN, World.cell?_drewN]; exact hcz6_1
     have hcB : ((w4.drewN m1).drewN nq).cell? ⟨gb123, 1, none⟩ = some (.int .u64 b1) := by rw [World.cell?_drewN, World.cell?_drewN]; exact hcz7_1
     generalize (w4.drewN m1).drewN nq = W5 at *
     go_quiet ((go_at_call 52; exact Calls.quiet_of ((cmp_Compare_uint64.calls _ _ r _ HC.out).mono fun e w' ⟨he, hd⟩ => ⟨he, hd.out⟩)))
     go_wp2
     obtain ⟨m5, rfl⟩ := HW.out
     go_ret
     exact ⟨rfl, by repeat (first | exact HB.out | apply lN | apply lD)⟩
   ·by_cases hd : a2 = b2
    ·have hdb : (a2 != b2) = false := by rw [hd]; simp
     have HD := aaM hd
     clear hd
     go_wp2
     repeat (go_quiet (fail); try go_wp2)
     go_roundw
     case rel => exact ⟨3, rfl, ⟨by omega, fun _ => HK.out.2.1 (by omega), fun _ => HK.out.2.2.1 (by omega), fun _ => HD.out⟩, by repeat (first | exact Drawn0.refl _ | apply Drawn0.step)⟩
     case measure => simp [intOf]
    ·have hdb : (a2 != b2) = true := bne_iff_ne.2 hd
     have HC : Aside0 (cmp_Compare_uint64.f a2 b2 = some r) := ⟨by
      have := HF.out
      unfold prod_CmpLong.f at this
      rwa [if_pos (HK.out.2.1 (by omega)), if_pos (HK.out.2.2.1 (by omega)), if_neg hd] at this⟩
     clear hd
     go_wp2
     go_quiet (fail)
     go_wp2
     have HW : Drawn0 w4 ((w4.drewN m1).drewN nq) := by repeat (first | exact Drawn0.refl _ | apply Drawn0.step)
     have hcA : ((w4.drewN m1).drewN nq).cell? ⟨gb122, 2, none⟩ = some (.int .u64 a2) := by rw [World.cell?_drewN, World.cell?_drewN]; exact hcz6_2
     have hcB : ((w4.drewN m1).drewN nq).cell? ⟨gb123, 2, none⟩ = some (.int .u64 b2) := by rw [World.cell?_drewN, World.cell?_drewN]; exact hcz7_2
     generalize (w4.drewN m1).drewN nq = W5 at *
     go_quiet ((go_at_call 52; exact Calls.quiet_of ((cmp_Compare_uint64.calls _ _ r _ HC.out).mono fun e w' ⟨he, hd⟩ => ⟨he, hd.out⟩)))
     go_wp2
     obtain ⟨m5, rfl⟩ := HW.out
     go_ret
     exact ⟨rfl, by repeat (first | exact HB.out | apply lN | apply lD)⟩
   ·exact absurd ⟨HK.out.2.1 (by omega), HK.out.2.2.1 (by omega), HK.out.2.2.2 (by omega)⟩ HN.out


/-! ### frac_Cmp: function 21 -/
def frac_Cmp.j0 : Nat → Bool → Int → Int → Int → Int → Int → Int → Option (Int)
 | 0, _, _, _, _, _, _, _ => none
 | k + 1, x12, x253000, x253001, x253002, x254000, x254001, x254002 => if x12 = true then ((frac_Right.f x253000 x253001 x253002).bind fun t256 => ((frac_rank.f t256).bind fun t257 => ((frac_Right.f x254000 x254001 x254002).bind fun t258 => ((frac_rank.f t258).bind fun t259 => ((cmp_Compare_int.f t257 t259).bind fun t260 => (some t260)))))) else ((prod_Times.f x253000 x253001 x254002).bind fun bt261 => ((prod_Times.f x254000 x254001 x253002).bind fun bt264 => ((prod_CmpLong.f bt261.1 bt261.2.1 bt261.2.2 bt264.1 bt264.2.1 bt264.2.2).bind fun t267 => (some t267))))
def frac_Cmp.f (k : Nat) (a0_0 : Int) (a0_1 : Int) (a0_2 : Int) (a1_0 : Int) (a1_1 : Int) (a1_2 : Int) : Option (Int) := (frac_Right.f a0_0 a0_1 a0_2).bind fun t254 => (if t254 = true then ((frac_Right.f a1_0 a1_1 a1_2).bind fun t255 => (frac_Cmp.j0 k (!t255) a0_0 a0_1 a0_2 a1_0 a1_1 a1_2)) else (frac_Cmp.j0 k true a0_0 a0_1 a0_2 a1_0 a1_1 a1_2))
theorem frac_Cmp.mono_l : ∀ k, (∀ y0 y1 y2 y3 y4 y5 y6, LeO (frac_Cmp.j0 k y0 y1 y2 y3 y4 y5 y6) (frac_Cmp.j0 (k + 1) y0 y1 y2 y3 y4 y5 y6))
 | 0 => fun _ _ _ _ _ _ _ r h => by simp [frac_Cmp.j0] at h
 | k + 1 => by
  have ih0 := frac_Cmp.mono_l k
  ·intro y0 y1 y2 y3 y4 y5 y6
   unfold frac_Cmp.j0
   repeat' first
   | (with_reducible exact ih0 _ _ _ _ _ _ _)
   | (with_reducible exact LeO.refl _)
   | (with_reducible exact LeO.none _)
   | (with_reducible refine LeO.ite ?_ ?_)
   | (with_reducible refine LeO.bind ?_ (fun _ => ?_))
   | exact ih0 _ _ _ _ _ _ _
   | exact LeO.none _
   | refine LeO.ite ?_ ?_
   | refine LeO.bind ?_ (fun _ => ?_)
theorem frac_Cmp.mono : ∀ a0 a1 a2 a3 a4 a5 k, LeO (frac_Cmp.f k a0 a1 a2 a3 a4 a5) (frac_Cmp.f (k + 1) a0 a1 a2 a3 a4 a5) := by
 intro a0 a1 a2 a3 a4 a5 k
 have ih0 := frac_Cmp.mono_l k
 unfold frac_Cmp.f
 repeat' first
   | (with_reducible exact ih0 _ _ _ _ _ _ _)
   | (with_reducible exact LeO.refl _)
   | (with_reducible exact LeO.none _)
   | (with_reducible refine LeO.ite ?_ ?_)
   | (with_reducible refine LeO.bind ?_ (fun _ => ?_))
   | exact ih0 _ _ _ _ _ _ _
   | exact LeO.none _
   | refine LeO.ite ?_ ?_
   | refine LeO.bind ?_ (fun _ => ?_)
def frac_Cmp.T2 : Bool × List (List Nat × List Nat) := (true, [([], []), ([0], [0]), ([1, 1], [1]), ([], []), ([3, 2], [3]), ([4, 4], [4]), ([2, 5, 5], [2, 5]), ([6, 6, 0, 1, 2, 3, 4, 5, 6], [6])])
def frac_Cmp.B2 : List Nat := [0, 1, 3, 0, 15, 31, 63, 127]
theorem frac_Cmp.tab2 : rtab .any (opsOf Try.f21 2) = frac_Cmp.T2 := by kernel_rfl
theorem frac_Cmp.bits2 : waitsOk frac_Cmp.T2.2 frac_Cmp.B2 = true := by kernel_rfl
def frac_Cmp.T3 : Bool × List (List Nat × List Nat) := (true, [([], []), ([0], [0]), ([], []), ([2], [2]), ([1, 3], [1, 3]), ([], []), ([5], [5]), ([], []), ([7], [7]), ([6, 8, 4], [6, 8]), ([4, 9, 9], [4, 9]), ([10, 10, 0, 1, 2, 3, 4, 5, 6, 7, 8, 9, 10], [10])])
def frac_Cmp.B3 : List Nat := [0, 1, 0, 4, 15, 0, 32, 0, 128, 511, 1023, 2047]
theorem frac_Cmp.tab3 : rtab .any (opsOf Try.f21 3) = frac_Cmp.T3 := by kernel_rfl
theorem frac_Cmp.bits3 : waitsOk frac_Cmp.T3.2 frac_Cmp.B3 = true := by kernel_rfl
set_option maxHeartbeats 8000000 in
set_option maxRecDepth 100000 in
theorem frac_Cmp.calls (k : Nat) (a0_0 : Int) (a0_1 : Int) (a0_2 : Int) (a1_0 : Int) (a1_1 : Int) (a1_2 : Int) (r : Int) (w : World) (h : frac_Cmp.f k a0_0 a0_1 a0_2 a1_0 a1_1 a1_2 = some r) :
  Calls Try.prog 21 #[.agg #[.int .u64 a0_0, .int .u64 a0_1, .int .u64 a0_2], .agg #[.int .u64 a1_0, .int .u64 a1_1, .int .u64 a1_2]] w fun e w' => e = .returned (.int .i64 r) ∧ Below w.heap.size w w' := by
 have hu32 := Try.underlying32
 have hu30 := Try.underlying30
 have HB := aaM (Below.refl w.heap.size w)
 have H : ((frac_Right.f a0_0 a0_1 a0_2).bind fun t254 => (if t254 = true then ((frac_Right.f a1_0 a1_1 a1_2).bind fun t255 => (frac_Cmp.j0 k (!t255) a0_0 a0_1 a0_2 a1_0 a1_1 a1_2)) else (frac_Cmp.j0 k true a0_0 a0_1 a0_2 a1_0 a1_1 a1_2))) = some r := h
 clear h
 have HC3 := aaM H
 clear H
 go_enter Try.func21, Try.ntmps21
 go_upto_region 1 with (first | ((with_reducible refine gate_dst (N := 2) rfl ?_); refine box_event ?hg (N := 2) ?hd (cs := #[.int .u64 a0_0, .int .u64 a0_1, .int .u64 a0_2]) (t := 32) ?hr ?_; (case hd => rfl); (case hg => rfl); (case hr => first | (go_simp; done) | (go_simp; rfl)); intro gb252 hg w4 hbox hb; have hP_ := lQ (by repeat (first | (with_reducible first | exact HB.out | apply lA | apply lN | apply lD) | exact HB.out)) hb; replace HB := aaM hP_.1; have BK252 := aaM (hbox); have GW252 := aaM (gQ hg hP_.2); have GE252 := aaM (gQ hg hP_.2); clear hP_ hb hbox hg) | ((with_reducible refine gate_dst (N := 3) rfl ?_); refine box_event ?hg (N := 3) ?hd (cs := #[.int .u64 a1_0, .int .u64 a1_1, .int .u64 a1_2]) (t := 32) ?hr ?_; (case hd => rfl); (case hg => rfl); (case hr => first | (go_simp; done) | (go_simp; rfl)); intro gb253 hg w5 hbox hb; have hP_ := lQ (by repeat (first | (with_reducible first | exact HB.out | apply lA | apply lN | apply lD | refine lS ?_ GE252.out) | exact HB.out)) hb; replace HB := aaM hP_.1; have BK253 := aaM (hbox); have GW253 := aaM (gQ hg hP_.2); have GE253 := aaM (gQ hg hP_.2); have NB252_253 := aaM (nL hg BK252.out); have NB253_252 := aaM (nL hg BK252.out).symm; replace BK252 := aaM (bX hb BK252.out); clear hP_ hb hbox hg))
 (try simp only [Act.put, ssB, ssZ, ssS])
 go_cut [12] (fun v12 wc => ∃ (kq : Nat) (x12_2 : Bool), v12 = .bool x12_2 ∧ Aside0 (frac_Cmp.j0 kq x12_2 a0_0 a0_1 a0_2 a1_0 a1_1 a1_2 = some r) ∧ Aside0 (kq ≤ k) ∧ Aside0 (wc.heap[gb252]? = some (.cells #[.int .u64 a0_0, .int .u64 a0_1, .int .u64 a0_2] 32 (0, 0))) ∧ Aside0 (wc.heap[gb253]? = some (.cells #[.int .u64 a1_0, .int .u64 a1_1, .int .u64 a1_2] 32 (0, 0))) ∧ Aside0 (Below w.heap.size w wc))
 case first =>
  have H := HC3.out
  clear HC3
  replace H := ooB.mp H
  obtain ⟨t254, A60, H⟩ := H
  replace H : (if t254 = true then ((frac_Right.f a1_0 a1_1 a1_2).bind fun t255 => (frac_Cmp.j0 k (!t255) a0_0 a0_1 a0_2 a1_0 a1_1 a1_2)) else (frac_Cmp.j0 k true a0_0 a0_1 a0_2 a1_0 a1_1 a1_2)) = some r := H
  have A6 := aaM A60
  clear A60
  by_cases c7 : t254 = true
  ·subst c7
   have H1 : ((frac_Right.f a1_0 a1_1 a1_2).bind fun t255 => (frac_Cmp.j0 k (!t255) a0_0 a0_1 a0_2 a1_0 a1_1 a1_2)) = some r := by rw [if_pos rfl] at H; exact H
   clear H
   have H := H1
   clear H1
   replace H := ooB.mp H
   obtain ⟨t255, A80, H⟩ := H
   replace H : (frac_Cmp.j0 k (!t255) a0_0 a0_1 a0_2 a1_0 a1_1 a1_2) = some r := H
   have A8 := aaM A80
   clear A80
   have H' := aaM H
   clear H
   have hnb9 := NB252_253.out
   have hnc9 := NB253_252.out
   obtain ⟨hcz10_0, hcz10_1, hcz10_2, hfz10_0, hfz10_1, hfz10_2⟩ := bE3 BK252.out
   go_wp2_with (first | ((with_reducible refine gate_callee (f := 20) rfl ?_); refine goesL_ (some 6) rfl rfl Try.func20 (by kernel_rfl) rfl #[.agg #[.int .u64 a0_0, .int .u64 a0_1, .int .u64 a0_2]] rfl (by (try simp only [mmT, mmC, mmN]); first | done | rfl | (simp only [ddD, ddT]; rfl)) ?_; (with_reducible refine (frac_Right.calls a0_0 a0_1 a0_2 true _ A6.out).mono ?_); rintro e w11 ⟨rfl, hb⟩; refine ⟨_, rfl, ?_⟩; replace BK252 := aaM (bX hb BK252.out); replace BK253 := aaM (bX hb BK253.out); replace HB := aaM (lP (by repeat (first | (with_reducible first | exact HB.out | apply lA | apply lN | apply lD | refine lS ?_ GE252.out | refine lS ?_ GE253.out) | exact HB.out)) hb); (try clear hb); (try clear hb2); (try clear hk); (try clear hi); obtain ⟨hcz12_0, hcz12_1, hcz12_2, hfz12_0, hfz12_1, hfz12_2⟩ := bE3 BK253.out) | (go_at_call 20; (with_reducible refine (frac_Right.calls a1_0 a1_1 a1_2 t255 _ A8.out).mono ?_); rintro e w13 ⟨rfl, hb⟩; replace BK252 := aaM (bX hb BK252.out); replace BK253 := aaM (bX hb BK253.out); replace HB := aaM (lP (by repeat (first | (with_reducible first | exact HB.out | apply lA | apply lN | apply lD | refine lS ?_ GE252.out | refine lS ?_ GE253.out) | exact HB.out)) hb); (try clear hb); (try clear hb2); (try clear hk); (try clear hi)))
   go_meet
   case rel => exact ⟨_, (!t255), (by first | rfl | (simp; done) | (simp [*]; done)), H', ⟨by first | omega | exact Nat.le_refl _⟩, ⟨by (with_reducible repeat (first | refine bN ?_ _ | refine bD ?_ | refine bA ?_ _)); exact BK252.out⟩, ⟨by (with_reducible repeat (first | refine bN ?_ _ | refine bD ?_ | refine bA ?_ _)); exact BK253.out⟩, ⟨by repeat (first | (with_reducible first | exact HB.out | apply lA | apply lN | apply lD | refine lS ?_ GE252.out | refine lS ?_ GE253.out) | exact HB.out)⟩⟩
  ·replace c7 := Bool.eq_false_iff.mpr c7
   subst c7
   have H1 : (frac_Cmp.j0 k true a0_0 a0_1 a0_2 a1_0 a1_1 a1_2) = some r := by rw [if_neg (show ¬ (false = true) by decide)] at H; exact H
   clear H
   have H := H1
   clear H1
   have H' := aaM H
   clear H
   have hnb14 := NB252_253.out
   have hnc14 := NB253_252.out
   obtain ⟨hcz15_0, hcz15_1, hcz15_2, hfz15_0, hfz15_1, hfz15_2⟩ := bE3 BK252.out
   go_wp2_with (first | ((with_reducible refine gate_callee (f := 20) rfl ?_); refine goesL_ (some 6) rfl rfl Try.func20 (by kernel_rfl) rfl #[.agg #[.int .u64 a0_0, .int .u64 a0_1, .int .u64 a0_2]] rfl (by (try simp only [mmT, mmC, mmN]); first | done | rfl | (simp only [ddD, ddT]; rfl)) ?_; (with_reducible refine (frac_Right.calls a0_0 a0_1 a0_2 false _ A6.out).mono ?_); rintro e w16 ⟨rfl, hb⟩; refine ⟨_, rfl, ?_⟩; replace BK252 := aaM (bX hb BK252.out); replace BK253 := aaM (bX hb BK253.out); replace HB := aaM (lP (by repeat (first | (with_reducible first | exact HB.out | apply lA | apply lN | apply lD | refine lS ?_ GE252.out | refine lS ?_ GE253.out) | exact HB.out)) hb); (try clear hb); (try clear hb2); (try clear hk); (try clear hi)))
   go_meet
   case rel => exact ⟨_, (true), (by first | rfl | (simp; done) | (simp [*]; done)), H', ⟨by first | omega | exact Nat.le_refl _⟩, ⟨by (with_reducible repeat (first | refine bN ?_ _ | refine bD ?_ | refine bA ?_ _)); exact BK252.out⟩, ⟨by (with_reducible repeat (first | refine bN ?_ _ | refine bD ?_ | refine bA ?_ _)); exact BK253.out⟩, ⟨by repeat (first | (with_reducible first | exact HB.out | apply lA | apply lN | apply lD | refine lS ?_ GE252.out | refine lS ?_ GE253.out) | exact HB.out)⟩⟩
 case rest =>
  clear HC3
  try clear c1
  try clear c2
  try clear p2
  try clear c7
  try clear c9
  try clear c14
  try clear hcz10_0
  try clear hcz10_1
  try clear hcz10_2
  try clear hcz12_0
  try clear hcz12_1
  try clear hcz12_2
  try clear hcz15_0
  try clear hcz15_1
  try clear hcz15_2
  try clear hfz10_0
  try clear hfz10_1
  try clear hfz10_2
  try clear hfz12_0
  try clear hfz12_1
  try clear hfz12_2
  try clear hfz15_0
  try clear hfz15_1
  try clear hfz15_2
  obtain ⟨kq, x12_2, rfl, HA, HJ2, BK252, BK253, HB⟩ := hcut
  cases kq with
  | zero => exact absurd HA.out (by simp [frac_Cmp.j0])
  | succ kj2 =>
   have H := HA.out
   clear HA
   simp only [frac_Cmp.j0] at H
   by_cases c17 : x12_2 = true
   ·subst c17
    have H1 : ((frac_Right.f a0_0 a0_1 a0_2).bind fun t256 => ((frac_rank.f t256).bind fun t257 => ((frac_Right.f a1_0 a1_1 a1_2).bind fun t258 => ((frac_rank.f t258).bind fun t259 => ((cmp_Compare_int.f t257 t259).bind fun t260 => (some t260)))))) = some r := by rw [if_pos rfl] at H; exact H
    clear H
    have H := H1
    clear H1
    replace H := ooB.mp H
    obtain ⟨t256, A180, H⟩ := H
    replace H : ((frac_rank.f t256).bind fun t257 => ((frac_Right.f a1_0 a1_1 a1_2).bind fun t258 => ((frac_rank.f t258).bind fun t259 => ((cmp_Compare_int.f t257 t259).bind fun t260 => (some t260))))) = some r := H
    have A18 := aaM A180
    clear A180
    replace H := ooB.mp H
    obtain ⟨t257, A190, H⟩ := H
    replace H : ((frac_Right.f a1_0 a1_1 a1_2).bind fun t258 => ((frac_rank.f t258).bind fun t259 => ((cmp_Compare_int.f t257 t259).bind fun t260 => (some t260)))) = some r := H
    have A19 := aaM A190
    clear A190
    replace H := ooB.mp H
    obtain ⟨t258, A200, H⟩ := H
    replace H : ((frac_rank.f t258).bind fun t259 => ((cmp_Compare_int.f t257 t259).bind fun t260 => (some t260))) = some r := H
    have A20 := aaM A200
    clear A200
    replace H := ooB.mp H
    obtain ⟨t259, A210, H⟩ := H
    replace H : ((cmp_Compare_int.f t257 t259).bind fun t260 => (some t260)) = some r := H
    have A21 := aaM A210
    clear A210
    replace H := ooB.mp H
    obtain ⟨t260, A220, H⟩ := H
    replace H : (some t260) = some r := H
    have A22 := aaM A220
    clear A220
    obtain rfl := Option.some.inj H
    try go_wp2
    replace BK252 := aaM (bD BK252.out)
    replace BK253 := aaM (bD BK253.out)
    replace HB := aaM (lD HB.out)
    refine start_ (n := 8) (S := fun w' => w'.cell? ⟨gb252, 0, none⟩ = some (.int .u64 a0_0) ∧ w'.cell? ⟨gb252, 1, none⟩ = some (.int .u64 a0_1) ∧ w'.cell? ⟨gb252, 2, none⟩ = some (.int .u64 a0_2) ∧ w'.cell? ⟨gb253, 0, none⟩ = some (.int .u64 a1_0) ∧ w'.cell? ⟨gb253, 1, none⟩ = some (.int .u64 a1_1) ∧ w'.cell? ⟨gb253, 2, none⟩ = some (.int .u64 a1_2)) (ds := []) #[false, false, false, false, false, false, false, false] (by kernel_rfl) rfl rfl ⟨(bC BK252.out 0).trans rfl, (bC BK252.out 1).trans rfl, (bC BK252.out 2).trans rfl, (bC BK253.out 0).trans rfl, (bC BK253.out 1).trans rfl, (bC BK253.out 2).trans rfl⟩ (fun hHeld => ?_); refine with_tabW frac_Cmp.tab2 frac_Cmp.bits2 (fun HT_ HW_ => ?_)
    generalize wc.drew = w23 at BK252 BK253 HB hHeld ⊢
    refine take_ (i := 0) (N := some 13) (v := ?_) (a' := ?_) #[true, false, false, false, false, false, false, false] rfl rfl (take_ofW HT_.out HW_.out (by kernel_rfl)) (fun _ _ _ h => h) (Or.inl ⟨by rfl, ?_⟩) hHeld ?_ ?_
    rotate_left
    ·rintro w' ⟨s0, s1, s2, s3, s4, s5⟩
     go_simp
     with_reducible rfl
    rotate_left
    ·simp only [Act.put, ssB, ssZ, ssS, i64_w, i32_w]
     rfl
    refine take_ (i := 3) (N := some 16) (v := ?_) (a' := ?_) #[true, false, false, true, false, false, false, false] rfl rfl (take_ofW HT_.out HW_.out (by kernel_rfl)) (fun _ _ _ h => h) (Or.inl ⟨by rfl, ?_⟩) hHeld ?_ ?_
    rotate_left
    ·rintro w' ⟨s0, s1, s2, s3, s4, s5⟩
     go_simp
     with_reducible rfl
    rotate_left
    ·simp only [Act.put, ssB, ssZ, ssS, i64_w, i32_w]
     rfl
    refine one_ (i := 1) (N := some 14) #[true, true, false, true, false, false, false, false] rfl rfl (one_of HT_.out (by kernel_rfl)) (by decide) (fun K hK => ?_)
    refine goes_ Try.func20 (by kernel_rfl) rfl #[.agg #[.int .u64 a0_0, .int .u64 a0_1, .int .u64 a0_2]] (by rfl) rfl rfl (by (try simp only [mmT, mmC, mmN]); first | done | rfl | (simp only [ddD, ddT]; rfl)) ?_
    with_reducible refine (frac_Right.calls a0_0 a0_1 a0_2 t256 _ A18.out).mono ?_
    rintro e w24 ⟨rfl, hb⟩
    refine ⟨_, rfl, ?_⟩
    replace BK252 := aaM (bX hb BK252.out)
    replace BK253 := aaM (bX hb BK253.out)
    replace HB := aaM (lP (by repeat (first | (with_reducible first | exact HB.out | apply lA | apply lN | apply lD | refine lS ?_ GE252.out | refine lS ?_ GE253.out) | exact HB.out)) hb)
    (try clear hb)
    (try clear hb2)
    (try clear hk)
    (try clear hi)
    refine hK.out _ _ ⟨(bC BK252.out 0).trans rfl, (bC BK252.out 1).trans rfl, (bC BK252.out 2).trans rfl, (bC BK253.out 0).trans rfl, (bC BK253.out 1).trans rfl, (bC BK253.out 2).trans rfl⟩ (fun hHeld => ?_)
    clear hK K
    refine norm_ (a' := ?_) ?_ ?_
    rotate_left
    ·show Act.put _ (some 14) _ = _
     simp only [Act.put, ssB, ssZ, ssS, i64_w, i32_w]
     rfl
    refine one_ (i := 2) (N := some 15) #[true, true, true, true, false, false, false, false] rfl rfl (one_of HT_.out (by kernel_rfl)) (by decide) (fun K hK => ?_)
    refine goes_ Try.func36 (by kernel_rfl) rfl #[.bool t256] (by rfl) rfl rfl (by (try simp only [mmT, mmC, mmN]); first | done | rfl | (simp only [ddD, ddT]; rfl)) ?_
    with_reducible refine (frac_rank.calls t256 t257 _ A19.out).mono ?_
    rintro e w' ⟨rfl, ⟨nd, rfl⟩⟩
    refine ⟨_, rfl, ?_⟩
    refine hK.out _ _ ⟨(bC BK252.out 0).trans rfl, (bC BK252.out 1).trans rfl, (bC BK252.out 2).trans rfl, (bC BK253.out 0).trans rfl, (bC BK253.out 1).trans rfl, (bC BK253.out 2).trans rfl⟩ (fun hHeld => ?_)
    clear hK K
    refine norm_ (a' := ?_) ?_ ?_
    rotate_left
    ·show Act.put _ (some 15) _ = _
     simp only [Act.put, ssB, ssZ, ssS, i64_w, i32_w]
     rfl
    refine one_ (i := 4) (N := some 17) #[true, true, true, true, true, false, false, false] rfl rfl (one_of HT_.out (by kernel_rfl)) (by decide) (fun K hK => ?_)
    refine goes_ Try.func20 (by kernel_rfl) rfl #[.agg #[.int .u64 a1_0, .int .u64 a1_1, .int .u64 a1_2]] (by rfl) rfl rfl (by (try simp only [mmT, mmC, mmN]); first | done | rfl | (simp only [ddD, ddT]; rfl)) ?_
    with_reducible refine (frac_Right.calls a1_0 a1_1 a1_2 t258 _ A20.out).mono ?_
    rintro e w25 ⟨rfl, hb⟩
    refine ⟨_, rfl, ?_⟩
    replace BK252 := aaM (bX hb BK252.out)
    replace BK253 := aaM (bX hb BK253.out)
    replace HB := aaM (lP (by repeat (first | (with_reducible first | exact HB.out | apply lA | apply lN | apply lD | refine lS ?_ GE252.out | refine lS ?_ GE253.out) | exact HB.out)) hb)
    (try clear hb)
    (try clear hb2)
    (try clear hk)
    (try clear hi)
    refine hK.out _ _ ⟨(bC BK252.out 0).trans rfl, (bC BK252.out 1).trans rfl, (bC BK252.out 2).trans rfl, (bC BK253.out 0).trans rfl, (bC BK253.out 1).trans rfl, (bC BK253.out 2).trans rfl⟩ (fun hHeld => ?_)
    clear hK K
    refine norm_ (a' := ?_) ?_ ?_
    rotate_left
    ·show Act.put _ (some 17) _ = _
     simp only [Act.put, ssB, ssZ, ssS, i64_w, i32_w]
     rfl
    refine one_ (i := 5) (N := some 18) #[true, true, true, true, true, true, false, false] rfl rfl (one_of HT_.out (by kernel_rfl)) (by decide) (fun K hK => ?_)
    refine goes_ Try.func36 (by kernel_rfl) rfl #[.bool t258] (by rfl) rfl rfl (by (try simp only [mmT, mmC, mmN]); first | done | rfl | (simp only [ddD, ddT]; rfl)) ?_
    with_reducible refine (frac_rank.calls t258 t259 _ A21.out).mono ?_
    rintro e w' ⟨rfl, ⟨nd, rfl⟩⟩
    refine ⟨_, rfl, ?_⟩
    refine hK.out _ _ ⟨(bC BK252.out 0).trans rfl, (bC BK252.out 1).trans rfl, (bC BK252.out 2).trans rfl, (bC BK253.out 0).trans rfl, (bC BK253.out 1).trans rfl, (bC BK253.out 2).trans rfl⟩ (fun hHeld => ?_)
    clear hK K
    refine norm_ (a' := ?_) ?_ ?_
    rotate_left
    ·show Act.put _ (some 18) _ = _
     simp only [Act.put, ssB, ssZ, ssS, i64_w, i32_w]
     rfl
    refine one_ (i := 6) (N := some 19) #[true, true, true, true, true, true, true, false] rfl rfl (one_of HT_.out (by kernel_rfl)) (by decide) (fun K hK => ?_)
    refine goes_ Try.func35 (by kernel_rfl) rfl #[.int .i64 t257, .int .i64 t259] (by rfl) rfl rfl (by (try simp only [mmT, mmC, mmN]); first | done | rfl | (simp only [ddD, ddT]; rfl)) ?_
    with_reducible refine (cmp_Compare_int.calls t257 t259 t260 _ A22.out).mono ?_
    rintro e w' ⟨rfl, ⟨nd, rfl⟩⟩
    refine ⟨_, rfl, ?_⟩
    refine hK.out _ _ ⟨(bC BK252.out 0).trans rfl, (bC BK252.out 1).trans rfl, (bC BK252.out 2).trans rfl, (bC BK253.out 0).trans rfl, (bC BK253.out 1).trans rfl, (bC BK253.out 2).trans rfl⟩ (fun hHeld => ?_)
    clear hK K
    refine norm_ (a' := ?_) ?_ ?_
    rotate_left
    ·show Act.put _ (some 19) _ = _
     simp only [Act.put, ssB, ssZ, ssS, i64_w, i32_w]
     rfl
    refine pure_ (i := 7) (N := some 4) (v := ?_) (a' := ?_) #[true, true, true, true, true, true, true, true] rfl rfl (any_of HT_.out (by kernel_rfl)) (fun _ _ _ h => h) (Or.inl ⟨by rfl, ?_⟩) ?_ ?_
    rotate_left
    ·intro w'
     go_simp
     with_reducible rfl
    rotate_left
    ·simp only [Act.put, ssB, ssZ, ssS, i64_w, i32_w]
     rfl
    refine done_ (done_of HT_.out (by kernel_rfl)) ?_
    try go_wp2
    all_goals (go_ret; exact ⟨by first | rfl | (simp [errW_none, errW_some] <;> rfl) | (simp [*, errW_none, errW_some] <;> rfl) | (simp_all; done), by repeat (first | (with_reducible first | exact HB.out | apply lA | apply lN | apply lD | refine lS ?_ GE252.out | refine lS ?_ GE253.out) | exact HB.out)⟩)
   ·replace c17 := Bool.eq_false_iff.mpr c17
    subst c17
    have H1 : ((prod_Times.f a0_0 a0_1 a1_2).bind fun bt261 => ((prod_Times.f a1_0 a1_1 a0_2).bind fun bt264 => ((prod_CmpLong.f bt261.1 bt261.2.1 bt261.2.2 bt264.1 bt264.2.1 bt264.2.2).bind fun t267 => (some t267)))) = some r := by rw [if_neg (show ¬ (false = true) by decide)] at H; exact H
    clear H
    have H := H1
    clear H1
    replace H := ooB.mp H
    obtain ⟨⟨t261, t262, t263⟩, A260, H⟩ := H
    replace H : ((prod_Times.f a1_0 a1_1 a0_2).bind fun bt264 => ((prod_CmpLong.f t261 t262 t263 bt264.1 bt264.2.1 bt264.2.2).bind fun t267 => (some t267))) = some r := H
    have A26 := aaM A260
    clear A260
    replace H := ooB.mp H
    obtain ⟨⟨t264, t265, t266⟩, A270, H⟩ := H
    replace H : ((prod_CmpLong.f t261 t262 t263 t264 t265 t266).bind fun t267 => (some t267)) = some r := H
    have A27 := aaM A270
    clear A270
    replace H := ooB.mp H
    obtain ⟨t267, A280, H⟩ := H
    replace H : (some t267) = some r := H
    have A28 := aaM A280
    clear A280
    obtain rfl := Option.some.inj H
    try go_wp2
    replace BK252 := aaM (bD BK252.out)
    replace BK253 := aaM (bD BK253.out)
    replace HB := aaM (lD HB.out)
    refine start_ (n := 12) (S := fun w' => w'.cell? ⟨gb252, 0, none⟩ = some (.int .u64 a0_0) ∧ w'.cell? ⟨gb252, 1, none⟩ = some (.int .u64 a0_1) ∧ w'.cell? ⟨gb252, 2, none⟩ = some (.int .u64 a0_2) ∧ w'.cell? ⟨gb253, 0, none⟩ = some (.int .u64 a1_0) ∧ w'.cell? ⟨gb253, 1, none⟩ = some (.int .u64 a1_1) ∧ w'.cell? ⟨gb253, 2, none⟩ = some (.int .u64 a1_2)) (ds := []) #[false, false, false, false, false, false, false, false, false, false, false, false] (by kernel_rfl) rfl rfl ⟨(bC BK252.out 0).trans rfl, (bC BK252.out 1).trans rfl, (bC BK252.out 2).trans rfl, (bC BK253.out 0).trans rfl, (bC BK253.out 1).trans rfl, (bC BK253.out 2).trans rfl⟩ (fun hHeld => ?_); refine with_tabW frac_Cmp.tab3 frac_Cmp.bits3 (fun HT_ HW_ => ?_)
    generalize wc.drew = w29 at BK252 BK253 HB hHeld ⊢
    refine pure_ (i := 0) (N := some 20) (v := ?_) (a' := ?_) #[true, false, false, false, false, false, false, false, false, false, false, false] rfl rfl (any_of HT_.out (by kernel_rfl)) (fun _ _ _ h => h) (Or.inl ⟨by rfl, ?_⟩) ?_ ?_
    rotate_left
    ·intro w'
     go_simp
     with_reducible rfl
    rotate_left
    ·simp only [Act.put, ssB, ssZ, ssS, i64_w, i32_w]
     rfl
    refine pure_ (i := 2) (N := some 22) (v := ?_) (a' := ?_) #[true, false, true, false, false, false, false, false, false, false, false, false] rfl rfl (any_of HT_.out (by kernel_rfl)) (fun _ _ _ h => h) (Or.inl ⟨by rfl, ?_⟩) ?_ ?_
    rotate_left
    ·intro w'
     go_simp
     with_reducible rfl
    rotate_left
    ·simp only [Act.put, ssB, ssZ, ssS, i64_w, i32_w]
     rfl
    refine pure_ (i := 5) (N := some 25) (v := ?_) (a' := ?_) #[true, false, true, false, false, true, false, false, false, false, false, false] rfl rfl (any_of HT_.out (by kernel_rfl)) (fun _ _ _ h => h) (Or.inl ⟨by rfl, ?_⟩) ?_ ?_
    rotate_left
    ·intro w'
     go_simp
     with_reducible rfl
    rotate_left
    ·simp only [Act.put, ssB, ssZ, ssS, i64_w, i32_w]
     rfl
    refine pure_ (i := 7) (N := some 27) (v := ?_) (a' := ?_) #[true, false, true, false, false, true, false, true, false, false, false, false] rfl rfl (any_of HT_.out (by kernel_rfl)) (fun _ _ _ h => h) (Or.inl ⟨by rfl, ?_⟩) ?_ ?_
    rotate_left
    ·intro w'
     go_simp
     with_reducible rfl
    rotate_left
    ·simp only [Act.put, ssB, ssZ, ssS, i64_w, i32_w]
     rfl
    refine take_ (i := 1) (N := some 21) (v := ?_) (a' := ?_) #[true, true, true, false, false, true, false, true, false, false, false, false] rfl rfl (take_ofW HT_.out HW_.out (by kernel_rfl)) (fun _ _ _ h => h) (Or.inl ⟨by rfl, ?_⟩) hHeld ?_ ?_
    rotate_left
    ·rintro w' ⟨s0, s1, s2, s3, s4, s5⟩
     go_simp
     with_reducible rfl
    rotate_left
    ·simp only [Act.put, ssB, ssZ, ssS, i64_w, i32_w]
     rfl
    refine take_ (i := 3) (N := some 23) (v := ?_) (a' := ?_) #[true, true, true, true, false, true, false, true, false, false, false, false] rfl rfl (take_ofW HT_.out HW_.out (by kernel_rfl)) (fun _ _ _ h => h) (Or.inl ⟨by rfl, ?_⟩) hHeld ?_ ?_
    rotate_left
    ·rintro w' ⟨s0, s1, s2, s3, s4, s5⟩
     go_simp
     with_reducible rfl
    rotate_left
    ·simp only [Act.put, ssB, ssZ, ssS, i64_w, i32_w]
     rfl
    refine take_ (i := 6) (N := some 26) (v := ?_) (a' := ?_) #[true, true, true, true, false, true, true, true, false, false, false, false] rfl rfl (take_ofW HT_.out HW_.out (by kernel_rfl)) (fun _ _ _ h => h) (Or.inl ⟨by rfl, ?_⟩) hHeld ?_ ?_
    rotate_left
    ·rintro w' ⟨s0, s1, s2, s3, s4, s5⟩
     go_simp
     with_reducible rfl
    rotate_left
    ·simp only [Act.put, ssB, ssZ, ssS, i64_w, i32_w]
     rfl
    refine take_ (i := 8) (N := some 28) (v := ?_) (a' := ?_) #[true, true, true, true, false, true, true, true, true, false, false, false] rfl rfl (take_ofW HT_.out HW_.out (by kernel_rfl)) (fun _ _ _ h => h) (Or.inl ⟨by rfl, ?_⟩) hHeld ?_ ?_
    rotate_left
    ·rintro w' ⟨s0, s1, s2, s3, s4, s5⟩
     go_simp
     with_reducible rfl
    rotate_left
    ·simp only [Act.put, ssB, ssZ, ssS, i64_w, i32_w]
     rfl
    refine one_ (i := 4) (N := some 24) #[true, true, true, true, true, true, true, true, true, false, false, false] rfl rfl (one_of HT_.out (by kernel_rfl)) (by decide) (fun K hK => ?_)
    refine goes_ Try.func38 (by kernel_rfl) rfl #[.agg #[.int .u64 a0_0, .int .u64 a0_1], .int .u64 a1_2] (by rfl) rfl rfl (by (try simp only [mmT, mmC, mmN]); first | done | rfl | (simp only [ddD, ddT]; rfl)) ?_
    with_reducible refine (prod_Times.calls a0_0 a0_1 a1_2 t261 t262 t263 _ A26.out).mono ?_
    rintro e w30 ⟨rfl, hb⟩
    refine ⟨_, rfl, ?_⟩
    replace BK252 := aaM (bX hb BK252.out)
    replace BK253 := aaM (bX hb BK253.out)
    replace HB := aaM (lP (by repeat (first | (with_reducible first | exact HB.out | apply lA | apply lN | apply lD | refine lS ?_ GE252.out | refine lS ?_ GE253.out) | exact HB.out)) hb)
    (try clear hb)
    (try clear hb2)
    (try clear hk)
    (try clear hi)
    refine hK.out _ _ ⟨(bC BK252.out 0).trans rfl, (bC BK252.out 1).trans rfl, (bC BK252.out 2).trans rfl, (bC BK253.out 0).trans rfl, (bC BK253.out 1).trans rfl, (bC BK253.out 2).trans rfl⟩ (fun hHeld => ?_)
    clear hK K
    refine norm_ (a' := ?_) ?_ ?_
    rotate_left
    ·show Act.put _ (some 24) _ = _
     simp only [Act.put, ssB, ssZ, ssS, i64_w, i32_w]
     rfl
    refine one_ (i := 9) (N := some 29) #[true, true, true, true, true, true, true, true, true, true, false, false] rfl rfl (one_of HT_.out (by kernel_rfl)) (by decide) (fun K hK => ?_)
    refine goes_ Try.func38 (by kernel_rfl) rfl #[.agg #[.int .u64 a1_0, .int .u64 a1_1], .int .u64 a0_2] (by rfl) rfl rfl (by (try simp only [mmT, mmC, mmN]); first | done | rfl | (simp only [ddD, ddT]; rfl)) ?_
    with_reducible refine (prod_Times.calls a1_0 a1_1 a0_2 t264 t265 t266 _ A27.out).mono ?_
    rintro e w31 ⟨rfl, hb⟩
    refine ⟨_, rfl, ?_⟩
    replace BK252 := aaM (bX hb BK252.out)
    replace BK253 := aaM (bX hb BK253.out)
    replace HB := aaM (lP (by repeat (first | (with_reducible first | exact HB.out | apply lA | apply lN | apply lD | refine lS ?_ GE252.out | refine lS ?_ GE253.out) | exact HB.out)) hb)
    (try clear hb)
    (try clear hb2)
    (try clear hk)
    (try clear hi)
    refine hK.out _ _ ⟨(bC BK252.out 0).trans rfl, (bC BK252.out 1).trans rfl, (bC BK252.out 2).trans rfl, (bC BK253.out 0).trans rfl, (bC BK253.out 1).trans rfl, (bC BK253.out 2).trans rfl⟩ (fun hHeld => ?_)
    clear hK K
    refine norm_ (a' := ?_) ?_ ?_
    rotate_left
    ·show Act.put _ (some 29) _ = _
     simp only [Act.put, ssB, ssZ, ssS, i64_w, i32_w]
     rfl
    refine one_ (i := 10) (N := some 30) #[true, true, true, true, true, true, true, true, true, true, true, false] rfl rfl (one_of HT_.out (by kernel_rfl)) (by decide) (fun K hK => ?_)
    refine goes_ Try.func37 (by kernel_rfl) rfl #[.agg #[.int .u64 t261, .int .u64 t262, .int .u64 t263], .agg #[.int .u64 t264, .int .u64 t265, .int .u64 t266]] (by rfl) rfl rfl (by (try simp only [mmT, mmC, mmN]); first | done | rfl | (simp only [ddD, ddT]; rfl)) ?_
    with_reducible refine (prod_CmpLong.calls t261 t262 t263 t264 t265 t266 t267 _ A28.out).mono ?_
    rintro e w32 ⟨rfl, hb⟩
    refine ⟨_, rfl, ?_⟩
    replace BK252 := aaM (bX hb BK252.out)
    replace BK253 := aaM (bX hb BK253.out)
    replace HB := aaM (lP (by repeat (first | (with_reducible first | exact HB.out | apply lA | apply lN | apply lD | refine lS ?_ GE252.out | refine lS ?_ GE253.out) | exact HB.out)) hb)
    (try clear hb)
    (try clear hb2)
    (try clear hk)
    (try clear hi)
    refine hK.out _ _ ⟨(bC BK252.out 0).trans rfl, (bC BK252.out 1).trans rfl, (bC BK252.out 2).trans rfl, (bC BK253.out 0).trans rfl, (bC BK253.out 1).trans rfl, (bC BK253.out 2).trans rfl⟩ (fun hHeld => ?_)
    clear hK K
    refine norm_ (a' := ?_) ?_ ?_
    rotate_left
    ·show Act.put _ (some 30) _ = _
     simp only [Act.put, ssB, ssZ, ssS, i64_w, i32_w]
     rfl
    refine pure_ (i := 11) (N := some 4) (v := ?_) (a' := ?_) #[true, true, true, true, true, true, true, true, true, true, true, true] rfl rfl (any_of HT_.out (by kernel_rfl)) (fun _ _ _ h => h) (Or.inl ⟨by rfl, ?_⟩) ?_ ?_
    rotate_left
    ·intro w'
     go_simp
     with_reducible rfl
    rotate_left
    ·simp only [Act.put, ssB, ssZ, ssS, i64_w, i32_w]
     rfl
    refine done_ (done_of HT_.out (by kernel_rfl)) ?_
    try go_wp2
    all_goals (go_ret; exact ⟨by first | rfl | (simp [errW_none, errW_some] <;> rfl) | (simp [*, errW_none, errW_some] <;> rfl) | (simp_all; done), by repeat (first | (with_reducible first | exact HB.out | apply lA | apply lN | apply lD | refine lS ?_ GE252.out | refine lS ?_ GE253.out) | exact HB.out)⟩)

/-! ### a part of split_Cut -/
section
variable {P : Program} {ops : Array Oper} {Q : Exit → Act → World → Prop}
theorem callMethod_ {T : TypeId} {v : Value} {name : String} {f : FuncId} {fn : Func} (hf : P.funcs[f]? = some fn) (hname : (fn.name == "runtime.NumGoroutine") = false) (hb : fn.body.isSome = true) (args all : Array Value) (hall : #[v] ++ args = all) {w : World}
  (hm : (method (P.types.size + Made.depth) T v name).run P w = .ok (f, v) w) : (callMethod (.iface T v) name args).run P w = .ok (.enter f all) w := by
 subst hall
 simp only [callMethod, Sem.run_bind, run_program, Result.andThen_ok, hm]
 exact enters_ hf hname hb (#[v] ++ args) w
/-- A call through an interface. -/
theorem goesIL_ {T : TypeId} {rest : List Oper} {oi : Oper} {a : Act} {w : World} (N : Option Tmp) (hd : oi.dst = N) (hg : oi.guard = none) {v : Value} {f : FuncId} {fn : Func} {x : Operand} {name : String} {as_ : Array Operand} {ts : Array TypeId} (hf : P.funcs[f]? = some fn) (hname : (fn.name == "runtime.NumGoroutine") = false) (hb : fn.body.isSome = true) (args all : Array Value) (hall : #[v] ++ args = all)
  (hm : (method (P.types.size + Made.depth) T v name).run P w = .ok (f, v) w)
  (hop : oi.op = .call { callee := .invoke x name, args := as_, argTypes := ts }) (hx : a.eval x = .iface T v) (hargs : as_.map a.eval = args)
  (h : Calls P f all w fun e w' => ∃ v, e = .returned v ∧ wpList P ops Q rest (a.put N v) w') : wpList P ops Q (oi :: rest) a w := by
 refine wpList_plain hg fun K hK => ?_
 have he := callMethod_ hf hname hb args all hall hm
 have hrun : (execOp a.eval oi).run P w = .ok (.enter f all) w := by
  have h0 : (#[Value.iface T v] ++ args)[0]? = some (Value.iface T v) := by rw [Array.getElem?_append_left (by simp)]; rfl
  unfold execOp
  simp [hop, resolve, hx, invoke, hargs, h0, he]
 unfold Oper.wp
 rw [hrun, Oper.upon_enter]
 refine h.mono fun e w'' hh => ?_
 obtain ⟨v, rfl, hk⟩ := hh
 subst hd
 exact hK _ _ hk
theorem goesI_ {T : TypeId} {oi : Oper} {N : Option Tmp} {a : Act} {w : World} {K : Act → World → Prop} {v : Value} {f : FuncId} {fn : Func} {x : Operand} {name : String} {as_ : Array Operand} {ts : Array TypeId} (hf : P.funcs[f]? = some fn) (hname : (fn.name == "runtime.NumGoroutine") = false) (hb : fn.body.isSome = true) (args all : Array Value) (hall : #[v] ++ args = all)
  (hm : (method (P.types.size + Made.depth) T v name).run P w = .ok (f, v) w)
  (hw : Region.wanted oi (yielded ops a.tmps) = true) (hN : oi.dst = N) (hop : oi.op = .call { callee := .invoke x name, args := as_, argTypes := ts }) (hx : a.eval x = .iface T v) (hargs : as_.map a.eval = args)
  (h : Calls P f all w fun e w' => ∃ v, e = .returned v ∧ K (a.put N v) w') : if Region.wanted oi (yielded ops a.tmps) = true then Oper.wp P oi a w K Q else K (a.put N undef) w := by
 have he := callMethod_ hf hname hb args all hall hm
 refine call_ f all hw hN ?_ h
 have h0 : (#[Value.iface T v] ++ args)[0]? = some (Value.iface T v) := by rw [Array.getElem?_append_left (by simp)]; rfl
 unfold execOp
 simp [hop, resolve, hx, invoke, hargs, h0, he]
end


/-! ### a part of split_Cut -/
/-- A row of one's own lies in another block than one of another type. -/
theorem split_binsC.row_far {α : Type} {d : Kd α} {e t g base : Nat} {ok : Nat → Prop} {w : World} {v : Value} {xs : List α} {cells : Array Value} (h : d.R e w base ok v xs) (hb : w.heap[g]? = some (.cells cells t (0, 0))) (ht : ∀ q, q ∈ e :: d.E → q ≠ t) (w' : World) (hm : ∀ k, k ≠ g → w'.heap[k]? = w.heap[k]?) : d.R e w' base ok v xs :=
 Kd.R_mono (Kd.R_move (Kd.R_types h hb ht) (fun k hk => hm k hk.2)) (fun k hk => hk.1)
def split_binsC.f (k : Nat) (a0_0 : Int) (a0_1 : Int) (a0_2 : Int) (l0_3 : List Int) (l0_4 : List (S54)) (a1 : Int) (a2 : Int) : Option (List Int × Bool) := (hist_Sum.f k a0_0 a0_1 a0_2 l0_3 l0_4 a1 a2).bind fun z => some (z.1, z.2.2.2.2 == 0)
theorem split_binsC.mono : ∀ a0 a1 a2 a3 a4 a5 a6 k, LeO (split_binsC.f k a0 a1 a2 a3 a4 a5 a6) (split_binsC.f (k + 1) a0 a1 a2 a3 a4 a5 a6) := by
 intro a0 a1 a2 a3 a4 a5 a6 k
 unfold split_binsC.f
 exact LeO.bind (hist_Sum.mono _ _ _ _ _ _ _ _) (fun _ => LeO.refl _)
set_option maxHeartbeats 8000000 in
set_option maxRecDepth 100000 in
theorem split_binsC.calls (k : Nat) (a0_0 : Int) (a0_1 : Int) (a0_2 : Int) (A0_3 : Option Addr) (c0_3 : Nat) (l0_3 : List Int) (A0_4 : Option Addr) (c0_4 : Nat) (l0_4 : List (S54)) (a1 : Int) (a2 : Int) (r1 : List Int) (rb : Bool) (w : World) (hr0_3 : Kd.C (Kd.int .i64) w A0_3 l0_3.length l0_3) (hc0_3 : l0_3.length ≤ c0_3) (hr0_4 : Kd.C k54 w A0_4 l0_4.length l0_4) (hc0_4 : l0_4.length ≤ c0_4) (hk_ : a0_0 = 0) (h : split_binsC.f k a0_0 a0_1 a0_2 l0_3 l0_4 a1 a2 = some (r1, rb)) :
  Calls Try.prog 19 #[.agg #[.int .i64 a0_0, .int .i64 a0_1, .int .i64 a0_2, (.slice A0_3 l0_3.length c0_3), (.slice A0_4 l0_4.length c0_4)], .int .i64 a1, .int .i64 a2] w fun e w' => ∃ v0_ : Value, e = .returned (.tuple #[.iface 81 (.agg #[v0_]), .bool rb]) ∧ Kd.R (Kd.int .i64) 2 w' w.heap.size (fun _ => True) v0_ r1 ∧ Below w.heap.size w w' := by
 have hu25 := Try.underlying25
 have hu54 := Try.underlying54
 have HR3 := aaM hr0_3
 have HC3 := aaM hc0_3
 have HR4 := aaM hr0_4
 have HC4 := aaM hc0_4
 have HB := aaM (Below.refl w.heap.size w)
 clear hr0_3 hc0_3 hr0_4 hc0_4
 have hk0_ : (a0_0 == 0) = true := beq_iff_eq.mpr hk_
 clear hk_
 have H : ((hist_Sum.f k a0_0 a0_1 a0_2 l0_3 l0_4 a1 a2).bind fun z => some (z.1, z.2.2.2.2 == 0)) = some (r1, rb) := h
 clear h
 replace H := ooB.mp H
 obtain ⟨⟨cs, c_, s_, q_, e_⟩, AS_, H⟩ := H
 have AS := aaM AS_
 clear AS_
 simp only [Option.some.injEq, Prod.mk.injEq] at H
 obtain ⟨rfl, rfl⟩ := H
 go_enter Try.func19, Try.ntmps19
 go_wp2_with (first | ((with_reducible refine gate_dst (N := 3) rfl ?_); refine box_event ?hg (N := 3) ?hd (cs := #[.int .i64 a0_0, .int .i64 a0_1, .int .i64 a0_2, (.slice A0_3 l0_3.length c0_3), (.slice A0_4 l0_4.length c0_4)]) (t := 25) ?hr ?_; (case hd => rfl); (case hg => rfl); (case hr => first | (go_simp; done) | (go_simp; rfl)); intro gh hg w1 hbox hb; have ge_ := aaM (show w.heap.size ≤ gh by rw [hg]; exact lZ (by repeat (first | (with_reducible first | exact HB.out | apply lA | apply lN | apply lD) | exact HB.out))); have hb_ := aaM (lP (by repeat (first | (with_reducible first | exact HB.out | apply lA | apply lN | apply lD) | exact HB.out)) hb); clear HB; have HB := hb_; clear hb_; have BKh := aaM hbox; have GEh := ge_; clear ge_ hg hbox hb; have hz2 : w1.cell? ⟨gh, 0, none⟩ = some (.int .i64 a0_0) := (bC BKh.out 0).trans rfl; have fhz2 := bF BKh.out 0; have hz3 : w1.cell? ⟨gh, 1, none⟩ = some (.int .i64 a0_1) := (bC BKh.out 1).trans rfl; have fhz3 := bF BKh.out 1; have hz4 : w1.cell? ⟨gh, 2, none⟩ = some (.int .i64 a0_2) := (bC BKh.out 2).trans rfl; have fhz4 := bF BKh.out 2; have hz5 : w1.cell? ⟨gh, 3, none⟩ = some ((.slice A0_3 l0_3.length c0_3)) := (bC BKh.out 3).trans rfl; have fhz5 := bF BKh.out 3; have hz6 : w1.cell? ⟨gh, 4, none⟩ = some ((.slice A0_4 l0_4.length c0_4)) := (bC BKh.out 4).trans rfl; have fhz6 := bF BKh.out 4) | ((with_reducible refine gate_callee (f := 34) rfl ?_); refine goesL_ (some 15) rfl rfl Try.func34 (by kernel_rfl) rfl #[.agg #[.int .i64 a0_0, .int .i64 a0_1, .int .i64 a0_2, (.slice A0_3 l0_3.length c0_3), (.slice A0_4 l0_4.length c0_4)], .int .i64 a1, .int .i64 a2] rfl (by (try simp only [mmT, mmC, mmN]); first | done | rfl) ?_; (with_reducible refine (hist_Sum.calls k _ _ _ _ _ l0_3 _ _ l0_4 _ _ cs c_ s_ q_ e_ _ ?s1 ?s2 ?s3 ?s4 AS.out).mono ?_); (case s1 => repeat (first | exact (ccB HR3.out HB.out) | (with_reducible refine ccA ?_ _) | (with_reducible refine ccN ?_ _) | (with_reducible refine ccD ?_))); (case s2 => exact HC3.out); (case s3 => repeat (first | exact (ccB HR4.out HB.out) | (with_reducible refine ccA ?_ _) | (with_reducible refine ccN ?_ _) | (with_reducible refine ccD ?_))); (case s4 => exact HC4.out); rintro e w7 ⟨v0, rfl, ho, hb⟩; refine ⟨_, rfl, ?_⟩; obtain ⟨Av, cv, ev_⟩ := Kd.R_slice ho; subst ev_; have mc_ := aaM (Kd.R_lower ho (lZ (by repeat (first | (with_reducible first | exact HB.out | apply lA | apply lN | apply lD | refine lS ?_ GEh.out) | exact HB.out)))); have nh_ := aaM (bB (g := gh) (o := .cells #[.int .i64 a0_0, .int .i64 a0_1, .int .i64 a0_2, (.slice A0_3 l0_3.length c0_3), (.slice A0_4 l0_4.length c0_4)] 25 (0, 0)) (by (with_reducible repeat (first | refine bN ?_ _ | refine bD ?_ | refine bA ?_ _)); exact BKh.out) hb); have hb_ := aaM (lP (by repeat (first | (with_reducible first | exact HB.out | apply lA | apply lN | apply lD | refine lS ?_ GEh.out) | exact HB.out)) hb); clear BKh HB; have BKh := nh_; have HB := hb_; clear nh_ hb_; have HOc := mc_; clear mc_ ho hb; (try clear hz2 fhz2 hz3 fhz3 hz4 fhz4 hz5 fhz5 hz6 fhz6); have hz8 : w7.cell? ⟨gh, 0, none⟩ = some (.int .i64 a0_0) := (bC BKh.out 0).trans rfl; have fhz8 := bF BKh.out 0; have hz9 : w7.cell? ⟨gh, 1, none⟩ = some (.int .i64 a0_1) := (bC BKh.out 1).trans rfl; have fhz9 := bF BKh.out 1; have hz10 : w7.cell? ⟨gh, 2, none⟩ = some (.int .i64 a0_2) := (bC BKh.out 2).trans rfl; have fhz10 := bF BKh.out 2; have hz11 : w7.cell? ⟨gh, 3, none⟩ = some ((.slice A0_3 l0_3.length c0_3)) := (bC BKh.out 3).trans rfl; have fhz11 := bF BKh.out 3; have hz12 : w7.cell? ⟨gh, 4, none⟩ = some ((.slice A0_4 l0_4.length c0_4)) := (bC BKh.out 4).trans rfl; have fhz12 := bF BKh.out 4) | ((with_reducible refine gate_dst (N := 9) rfl ?_); refine box_event ?hg (N := 9) ?hd (cs := #[.int .i64 0, .int .i64 0, .int .i64 0]) (t := 54) ?hr ?_; (case hd => rfl); (case hg => rfl); (case hr => first | (go_simp; done) | (go_simp; rfl)); intro gm hg w13 hbox hb; have ge_ := aaM (show w.heap.size ≤ gm by rw [hg]; exact lZ (by repeat (first | (with_reducible first | exact HB.out | apply lA | apply lN | apply lD | refine lS ?_ GEh.out) | exact HB.out))); have NBh_m := aaM (show gh ≠ gm by rw [hg]; exact Nat.ne_of_lt (bL (g := gh) (by (with_reducible repeat (first | refine bN ?_ _ | refine bD ?_ | refine bA ?_ _)); exact BKh.out))); have NBm_h := aaM (show gm ≠ gh by rw [hg]; exact Nat.ne_of_gt (bL (g := gh) (by (with_reducible repeat (first | refine bN ?_ _ | refine bD ?_ | refine bA ?_ _)); exact BKh.out))); have nh_ := aaM (bB (g := gh) (o := .cells #[.int .i64 a0_0, .int .i64 a0_1, .int .i64 a0_2, (.slice A0_3 l0_3.length c0_3), (.slice A0_4 l0_4.length c0_4)] 25 (0, 0)) (by (with_reducible repeat (first | refine bN ?_ _ | refine bD ?_ | refine bA ?_ _)); exact BKh.out) hb); have mc_ := aaM (rrB (by (with_reducible repeat (first | apply rrA | apply rrN | apply rrD)); exact HOc.out) hb); have hb_ := aaM (lP (by repeat (first | (with_reducible first | exact HB.out | apply lA | apply lN | apply lD | refine lS ?_ GEh.out) | exact HB.out)) hb); clear BKh HOc HB; have BKh := nh_; have HOc := mc_; have HB := hb_; clear nh_ mc_ hb_; have BKm := aaM hbox; have GEm := ge_; clear ge_ hg hbox hb; have nbh_m := NBh_m.out; have nbm_h := NBm_h.out; (try clear hz8 fhz8 hz9 fhz9 hz10 fhz10 hz11 fhz11 hz12 fhz12); have hz14 : w13.cell? ⟨gh, 0, none⟩ = some (.int .i64 a0_0) := (bC BKh.out 0).trans rfl; have fhz14 := bF BKh.out 0; have hz15 : w13.cell? ⟨gh, 1, none⟩ = some (.int .i64 a0_1) := (bC BKh.out 1).trans rfl; have fhz15 := bF BKh.out 1; have hz16 : w13.cell? ⟨gh, 2, none⟩ = some (.int .i64 a0_2) := (bC BKh.out 2).trans rfl; have fhz16 := bF BKh.out 2; have hz17 : w13.cell? ⟨gh, 3, none⟩ = some ((.slice A0_3 l0_3.length c0_3)) := (bC BKh.out 3).trans rfl; have fhz17 := bF BKh.out 3; have hz18 : w13.cell? ⟨gh, 4, none⟩ = some ((.slice A0_4 l0_4.length c0_4)) := (bC BKh.out 4).trans rfl; have fhz18 := bF BKh.out 4; have hz19 : w13.cell? ⟨gm, 0, none⟩ = some (.int .i64 0) := (bC BKm.out 0).trans rfl; have fhz19 := bF BKm.out 0; have hz20 : w13.cell? ⟨gm, 1, none⟩ = some (.int .i64 0) := (bC BKm.out 1).trans rfl; have fhz20 := bF BKm.out 1; have hz21 : w13.cell? ⟨gm, 2, none⟩ = some (.int .i64 0) := (bC BKm.out 2).trans rfl; have fhz21 := bF BKm.out 2) | ((with_reducible refine gate_store (t := 54) (p := 9) rfl ?_); refine store_event (t := 54) (p := 9) (v := ?vow22) (w1 := (((w13.setCell ⟨gm, 0, none⟩ (.int .i64 c_)).setCell ⟨gm, 1, none⟩ (.int .i64 s_)).setCell ⟨gm, 2, none⟩ (.int .i64 q_))) ?hg ?ho ?hN ?hr ?_; (case ho => rfl); (case hg => rfl); (case hN => rfl); (case hr => first | (go_simp; done) | (go_simp; rfl)); intro w22 hw_; have nh_ : Aside0 (w22.heap[gh]? = some (.cells #[.int .i64 a0_0, .int .i64 a0_1, .int .i64 a0_2, (.slice A0_3 l0_3.length c0_3), (.slice A0_4 l0_4.length c0_4)] 25 (0, 0))) := ⟨by rw [hw_]; refine blk_far ?_ NBh_m.out _; refine blk_far ?_ NBh_m.out _; refine blk_far ?_ NBh_m.out _; exact (by (with_reducible repeat (first | refine bN ?_ _ | refine bD ?_ | refine bA ?_ _)); exact BKh.out)⟩; have nm_ : Aside0 (w22.heap[gm]? = some (.cells #[.int .i64 c_, .int .i64 s_, .int .i64 q_] 54 (0, 0))) := ⟨by rw [hw_]; refine blk_put (cs := #[.int .i64 c_, .int .i64 s_, .int .i64 0]) ?_ 2 _ rfl; refine blk_put (cs := #[.int .i64 c_, .int .i64 0, .int .i64 0]) ?_ 1 _ rfl; refine blk_put (cs := #[.int .i64 0, .int .i64 0, .int .i64 0]) ?_ 0 _ rfl; exact (by (with_reducible repeat (first | refine bN ?_ _ | refine bD ?_ | refine bA ?_ _)); exact BKm.out)⟩; have mc_ : Aside0 (Kd.R (Kd.int .i64) 2 w22 w.heap.size (fun _ => True) (.slice Av cs.length cv) cs) := ⟨by rw [hw_]; exact row_far (w := w13) (by (with_reducible repeat (first | apply rrA | apply rrN | apply rrD)); exact HOc.out) (by (with_reducible repeat (first | refine bN ?_ _ | refine bD ?_ | refine bA ?_ _)); exact BKm.out) (by decide) _ (fun k_ hk_ => by refine (hhS _ _ _ k_ hk_).trans ?_; refine (hhS _ _ _ k_ hk_).trans ?_; refine (hhS _ _ _ k_ hk_).trans ?_; exact rfl)⟩; have hb_ : Aside0 (Below w.heap.size w w22) := ⟨by rw [hw_]; refine lS ?_ GEm.out; refine lS ?_ GEm.out; refine lS ?_ GEm.out; exact (by repeat (first | (with_reducible first | exact HB.out | apply lA | apply lN | apply lD | refine lS ?_ GEh.out | refine lS ?_ GEm.out) | exact HB.out))⟩; clear BKh BKm HOc HB; have BKh := nh_; have BKm := nm_; have HOc := mc_; have HB := hb_; clear nh_ nm_ mc_ hb_ hw_; (try clear hz14 fhz14 hz15 fhz15 hz16 fhz16 hz17 fhz17 hz18 fhz18 hz19 fhz19 hz20 fhz20 hz21 fhz21); have hz23 : w22.cell? ⟨gh, 0, none⟩ = some (.int .i64 a0_0) := (bC BKh.out 0).trans rfl; have fhz23 := bF BKh.out 0; have hz24 : w22.cell? ⟨gh, 1, none⟩ = some (.int .i64 a0_1) := (bC BKh.out 1).trans rfl; have fhz24 := bF BKh.out 1; have hz25 : w22.cell? ⟨gh, 2, none⟩ = some (.int .i64 a0_2) := (bC BKh.out 2).trans rfl; have fhz25 := bF BKh.out 2; have hz26 : w22.cell? ⟨gh, 3, none⟩ = some ((.slice A0_3 l0_3.length c0_3)) := (bC BKh.out 3).trans rfl; have fhz26 := bF BKh.out 3; have hz27 : w22.cell? ⟨gh, 4, none⟩ = some ((.slice A0_4 l0_4.length c0_4)) := (bC BKh.out 4).trans rfl; have fhz27 := bF BKh.out 4; have hz28 : w22.cell? ⟨gm, 0, none⟩ = some (.int .i64 c_) := (bC BKm.out 0).trans rfl; have fhz28 := bF BKm.out 0; have hz29 : w22.cell? ⟨gm, 1, none⟩ = some (.int .i64 s_) := (bC BKm.out 1).trans rfl; have fhz29 := bF BKm.out 1; have hz30 : w22.cell? ⟨gm, 2, none⟩ = some (.int .i64 q_) := (bC BKm.out 2).trans rfl; have fhz30 := bF BKm.out 2))
 refine bodyPost_ret (results_list (rs := [.tmp 6, .tmp 7]) rfl (by simp) (.tmp (.tmp .nil))) rfl ?_
 exact ⟨_, rfl, HOc.out, HB.out⟩


/-! ### a part of split_Cut -/
/-- A row of one's own lies in another block than one of another type. -/
theorem split_binsM.row_far {α : Type} {d : Kd α} {e t g base : Nat} {ok : Nat → Prop} {w : World} {v : Value} {xs : List α} {cells : Array Value} (h : d.R e w base ok v xs) (hb : w.heap[g]? = some (.cells cells t (0, 0))) (ht : ∀ q, q ∈ e :: d.E → q ≠ t) (w' : World) (hm : ∀ k, k ≠ g → w'.heap[k]? = w.heap[k]?) : d.R e w' base ok v xs :=
 Kd.R_mono (Kd.R_move (Kd.R_types h hb ht) (fun k hk => hm k hk.2)) (fun k hk => hk.1)
def split_binsM.f (k : Nat) (a0_0 : Int) (a0_1 : Int) (a0_2 : Int) (l0_3 : List Int) (l0_4 : List (S54)) (a1 : Int) (a2 : Int) : Option (Int × Int × Int × Bool) := (hist_Sum.f k a0_0 a0_1 a0_2 l0_3 l0_4 a1 a2).bind fun z => some (z.2.1, z.2.2.1, z.2.2.2.1, z.2.2.2.2 == 0)
theorem split_binsM.mono : ∀ a0 a1 a2 a3 a4 a5 a6 k, LeO (split_binsM.f k a0 a1 a2 a3 a4 a5 a6) (split_binsM.f (k + 1) a0 a1 a2 a3 a4 a5 a6) := by
 intro a0 a1 a2 a3 a4 a5 a6 k
 unfold split_binsM.f
 exact LeO.bind (hist_Sum.mono _ _ _ _ _ _ _ _) (fun _ => LeO.refl _)
set_option maxHeartbeats 8000000 in
set_option maxRecDepth 100000 in
theorem split_binsM.calls (k : Nat) (a0_0 : Int) (a0_1 : Int) (a0_2 : Int) (A0_3 : Option Addr) (c0_3 : Nat) (l0_3 : List Int) (A0_4 : Option Addr) (c0_4 : Nat) (l0_4 : List (S54)) (a1 : Int) (a2 : Int) (r1 r2 r3 : Int) (rb : Bool) (w : World) (hr0_3 : Kd.C (Kd.int .i64) w A0_3 l0_3.length l0_3) (hc0_3 : l0_3.length ≤ c0_3) (hr0_4 : Kd.C k54 w A0_4 l0_4.length l0_4) (hc0_4 : l0_4.length ≤ c0_4) (hk_ : ¬ a0_0 = 0) (h : split_binsM.f k a0_0 a0_1 a0_2 l0_3 l0_4 a1 a2 = some (r1, r2, r3, rb)) :
  Calls Try.prog 19 #[.agg #[.int .i64 a0_0, .int .i64 a0_1, .int .i64 a0_2, (.slice A0_3 l0_3.length c0_3), (.slice A0_4 l0_4.length c0_4)], .int .i64 a1, .int .i64 a2] w fun e w' => e = .returned (.tuple #[.iface 83 (.agg #[.int .i64 r1, .int .i64 r2, .int .i64 r3]), .bool rb]) ∧ Below w.heap.size w w' := by
 have hu25 := Try.underlying25
 have hu54 := Try.underlying54
 have HR3 := aaM hr0_3
 have HC3 := aaM hc0_3
 have HR4 := aaM hr0_4
 have HC4 := aaM hc0_4
 have HB := aaM (Below.refl w.heap.size w)
 clear hr0_3 hc0_3 hr0_4 hc0_4
 have hk0_ : (a0_0 == 0) = false := beq_eq_false_iff_ne.mpr hk_
 clear hk_
 have H : ((hist_Sum.f k a0_0 a0_1 a0_2 l0_3 l0_4 a1 a2).bind fun z => some (z.2.1, z.2.2.1, z.2.2.2.1, z.2.2.2.2 == 0)) = some (r1, r2, r3, rb) := h
 clear h
 replace H := ooB.mp H
 obtain ⟨⟨cs, c_, s_, q_, e_⟩, AS_, H⟩ := H
 have AS := aaM AS_
 clear AS_
 simp only [Option.some.injEq, Prod.mk.injEq] at H
 obtain ⟨rfl, rfl, rfl, rfl⟩ := H
 go_enter Try.func19, Try.ntmps19
 go_wp2_with (first | ((with_reducible refine gate_dst (N := 3) rfl ?_); refine box_event ?hg (N := 3) ?hd (cs := #[.int .i64 a0_0, .int .i64 a0_1, .int .i64 a0_2, (.slice A0_3 l0_3.length c0_3), (.slice A0_4 l0_4.length c0_4)]) (t := 25) ?hr ?_; (case hd => rfl); (case hg => rfl); (case hr => first | (go_simp; done) | (go_simp; rfl)); intro gh hg w1 hbox hb; have ge_ := aaM (show w.heap.size ≤ gh by rw [hg]; exact lZ (by repeat (first | (with_reducible first | exact HB.out | apply lA | apply lN | apply lD) | exact HB.out))); have hb_ := aaM (lP (by repeat (first | (with_reducible first | exact HB.out | apply lA | apply lN | apply lD) | exact HB.out)) hb); clear HB; have HB := hb_; clear hb_; have BKh := aaM hbox; have GEh := ge_; clear ge_ hg hbox hb; have hz2 : w1.cell? ⟨gh, 0, none⟩ = some (.int .i64 a0_0) := (bC BKh.out 0).trans rfl; have fhz2 := bF BKh.out 0; have hz3 : w1.cell? ⟨gh, 1, none⟩ = some (.int .i64 a0_1) := (bC BKh.out 1).trans rfl; have fhz3 := bF BKh.out 1; have hz4 : w1.cell? ⟨gh, 2, none⟩ = some (.int .i64 a0_2) := (bC BKh.out 2).trans rfl; have fhz4 := bF BKh.out 2; have hz5 : w1.cell? ⟨gh, 3, none⟩ = some ((.slice A0_3 l0_3.length c0_3)) := (bC BKh.out 3).trans rfl; have fhz5 := bF BKh.out 3; have hz6 : w1.cell? ⟨gh, 4, none⟩ = some ((.slice A0_4 l0_4.length c0_4)) := (bC BKh.out 4).trans rfl; have fhz6 := bF BKh.out 4) | ((with_reducible refine gate_callee (f := 34) rfl ?_); refine goesL_ (some 15) rfl rfl Try.func34 (by kernel_rfl) rfl #[.agg #[.int .i64 a0_0, .int .i64 a0_1, .int .i64 a0_2, (.slice A0_3 l0_3.length c0_3), (.slice A0_4 l0_4.length c0_4)], .int .i64 a1, .int .i64 a2] rfl (by (try simp only [mmT, mmC, mmN]); first | done | rfl) ?_; (with_reducible refine (hist_Sum.calls k _ _ _ _ _ l0_3 _ _ l0_4 _ _ cs c_ s_ q_ e_ _ ?s1 ?s2 ?s3 ?s4 AS.out).mono ?_); (case s1 => repeat (first | exact (ccB HR3.out HB.out) | (with_reducible refine ccA ?_ _) | (with_reducible refine ccN ?_ _) | (with_reducible refine ccD ?_))); (case s2 => exact HC3.out); (case s3 => repeat (first | exact (ccB HR4.out HB.out) | (with_reducible refine ccA ?_ _) | (with_reducible refine ccN ?_ _) | (with_reducible refine ccD ?_))); (case s4 => exact HC4.out); rintro e w7 ⟨v0, rfl, ho, hb⟩; refine ⟨_, rfl, ?_⟩; obtain ⟨Av, cv, ev_⟩ := Kd.R_slice ho; subst ev_; have mc_ := aaM (Kd.R_lower ho (lZ (by repeat (first | (with_reducible first | exact HB.out | apply lA | apply lN | apply lD | refine lS ?_ GEh.out) | exact HB.out)))); have nh_ := aaM (bB (g := gh) (o := .cells #[.int .i64 a0_0, .int .i64 a0_1, .int .i64 a0_2, (.slice A0_3 l0_3.length c0_3), (.slice A0_4 l0_4.length c0_4)] 25 (0, 0)) (by (with_reducible repeat (first | refine bN ?_ _ | refine bD ?_ | refine bA ?_ _)); exact BKh.out) hb); have hb_ := aaM (lP (by repeat (first | (with_reducible first | exact HB.out | apply lA | apply lN | apply lD | refine lS ?_ GEh.out) | exact HB.out)) hb); clear BKh HB; have BKh := nh_; have HB := hb_; clear nh_ hb_; have HOc := mc_; clear mc_ ho hb; (try clear hz2 fhz2 hz3 fhz3 hz4 fhz4 hz5 fhz5 hz6 fhz6); have hz8 : w7.cell? ⟨gh, 0, none⟩ = some (.int .i64 a0_0) := (bC BKh.out 0).trans rfl; have fhz8 := bF BKh.out 0; have hz9 : w7.cell? ⟨gh, 1, none⟩ = some (.int .i64 a0_1) := (bC BKh.out 1).trans rfl; have fhz9 := bF BKh.out 1; have hz10 : w7.cell? ⟨gh, 2, none⟩ = some (.int .i64 a0_2) := (bC BKh.out 2).trans rfl; have fhz10 := bF BKh.out 2; have hz11 : w7.cell? ⟨gh, 3, none⟩ = some ((.slice A0_3 l0_3.length c0_3)) := (bC BKh.out 3).trans rfl; have fhz11 := bF BKh.out 3; have hz12 : w7.cell? ⟨gh, 4, none⟩ = some ((.slice A0_4 l0_4.length c0_4)) := (bC BKh.out 4).trans rfl; have fhz12 := bF BKh.out 4) | ((with_reducible refine gate_dst (N := 9) rfl ?_); refine box_event ?hg (N := 9) ?hd (cs := #[.int .i64 0, .int .i64 0, .int .i64 0]) (t := 54) ?hr ?_; (case hd => rfl); (case hg => rfl); (case hr => first | (go_simp; done) | (go_simp; rfl)); intro gm hg w13 hbox hb; have ge_ := aaM (show w.heap.size ≤ gm by rw [hg]; exact lZ (by repeat (first | (with_reducible first | exact HB.out | apply lA | apply lN | apply lD | refine lS ?_ GEh.out) | exact HB.out))); have NBh_m := aaM (show gh ≠ gm by rw [hg]; exact Nat.ne_of_lt (bL (g := gh) (by (with_reducible repeat (first | refine bN ?_ _ | refine bD ?_ | refine bA ?_ _)); exact BKh.out))); have NBm_h := aaM (show gm ≠ gh by rw [hg]; exact Nat.ne_of_gt (bL (g := gh) (by (with_reducible repeat (first | refine bN ?_ _ | refine bD ?_ | refine bA ?_ _)); exact BKh.out))); have nh_ := aaM (bB (g := gh) (o := .cells #[.int .i64 a0_0, .int .i64 a0_1, .int .i64 a0_2, (.slice A0_3 l0_3.length c0_3), (.slice A0_4 l0_4.length c0_4)] 25 (0, 0)) (by (with_reducible repeat (first | refine bN ?_ _ | refine bD ?_ | refine bA ?_ _)); exact BKh.out) hb); have mc_ := aaM (rrB (by (with_reducible repeat (first | apply rrA | apply rrN | apply rrD)); exact HOc.out) hb); have hb_ := aaM (lP (by repeat (first | (with_reducible first | exact HB.out | apply lA | apply lN | apply lD | refine lS ?_ GEh.out) | exact HB.out)) hb); clear BKh HOc HB; have BKh := nh_; have HOc := mc_; have HB := hb_; clear nh_ mc_ hb_; have BKm := aaM hbox; have GEm := ge_; clear ge_ hg hbox hb; have nbh_m := NBh_m.out; have nbm_h := NBm_h.out; (try clear hz8 fhz8 hz9 fhz9 hz10 fhz10 hz11 fhz11 hz12 fhz12); have hz14 : w13.cell? ⟨gh, 0, none⟩ = some (.int .i64 a0_0) := (bC BKh.out 0).trans rfl; have fhz14 := bF BKh.out 0; have hz15 : w13.cell? ⟨gh, 1, none⟩ = some (.int .i64 a0_1) := (bC BKh.out 1).trans rfl; have fhz15 := bF BKh.out 1; have hz16 : w13.cell? ⟨gh, 2, none⟩ = some (.int .i64 a0_2) := (bC BKh.out 2).trans rfl; have fhz16 := bF BKh.out 2; have hz17 : w13.cell? ⟨gh, 3, none⟩ = some ((.slice A0_3 l0_3.length c0_3)) := (bC BKh.out 3).trans rfl; have fhz17 := bF BKh.out 3; have hz18 : w13.cell? ⟨gh, 4, none⟩ = some ((.slice A0_4 l0_4.length c0_4)) := (bC BKh.out 4).trans rfl; have fhz18 := bF BKh.out 4; have hz19 : w13.cell? ⟨gm, 0, none⟩ = some (.int .i64 0) := (bC BKm.out 0).trans rfl; have fhz19 := bF BKm.out 0; have hz20 : w13.cell? ⟨gm, 1, none⟩ = some (.int .i64 0) := (bC BKm.out 1).trans rfl; have fhz20 := bF BKm.out 1; have hz21 : w13.cell? ⟨gm, 2, none⟩ = some (.int .i64 0) := (bC BKm.out 2).trans rfl; have fhz21 := bF BKm.out 2) | ((with_reducible refine gate_store (t := 54) (p := 9) rfl ?_); refine store_event (t := 54) (p := 9) (v := ?vow22) (w1 := (((w13.setCell ⟨gm, 0, none⟩ (.int .i64 c_)).setCell ⟨gm, 1, none⟩ (.int .i64 s_)).setCell ⟨gm, 2, none⟩ (.int .i64 q_))) ?hg ?ho ?hN ?hr ?_; (case ho => rfl); (case hg => rfl); (case hN => rfl); (case hr => first | (go_simp; done) | (go_simp; rfl)); intro w22 hw_; have nh_ : Aside0 (w22.heap[gh]? = some (.cells #[.int .i64 a0_0, .int .i64 a0_1, .int .i64 a0_2, (.slice A0_3 l0_3.length c0_3), (.slice A0_4 l0_4.length c0_4)] 25 (0, 0))) := ⟨by rw [hw_]; refine blk_far ?_ NBh_m.out _; refine blk_far ?_ NBh_m.out _; refine blk_far ?_ NBh_m.out _; exact (by (with_reducible repeat (first | refine bN ?_ _ | refine bD ?_ | refine bA ?_ _)); exact BKh.out)⟩; have nm_ : Aside0 (w22.heap[gm]? = some (.cells #[.int .i64 c_, .int .i64 s_, .int .i64 q_] 54 (0, 0))) := ⟨by rw [hw_]; refine blk_put (cs := #[.int .i64 c_, .int .i64 s_, .int .i64 0]) ?_ 2 _ rfl; refine blk_put (cs := #[.int .i64 c_, .int .i64 0, .int .i64 0]) ?_ 1 _ rfl; refine blk_put (cs := #[.int .i64 0, .int .i64 0, .int .i64 0]) ?_ 0 _ rfl; exact (by (with_reducible repeat (first | refine bN ?_ _ | refine bD ?_ | refine bA ?_ _)); exact BKm.out)⟩; have mc_ : Aside0 (Kd.R (Kd.int .i64) 2 w22 w.heap.size (fun _ => True) (.slice Av cs.length cv) cs) := ⟨by rw [hw_]; exact row_far (w := w13) (by (with_reducible repeat (first | apply rrA | apply rrN | apply rrD)); exact HOc.out) (by (with_reducible repeat (first | refine bN ?_ _ | refine bD ?_ | refine bA ?_ _)); exact BKm.out) (by decide) _ (fun k_ hk_ => by refine (hhS _ _ _ k_ hk_).trans ?_; refine (hhS _ _ _ k_ hk_).trans ?_; refine (hhS _ _ _ k_ hk_).trans ?_; exact rfl)⟩; have hb_ : Aside0 (Below w.heap.size w w22) := ⟨by rw [hw_]; refine lS ?_ GEm.out; refine lS ?_ GEm.out; refine lS ?_ GEm.out; exact (by repeat (first | (with_reducible first | exact HB.out | apply lA | apply lN | apply lD | refine lS ?_ GEh.out | refine lS ?_ GEm.out) | exact HB.out))⟩; clear BKh BKm HOc HB; have BKh := nh_; have BKm := nm_; have HOc := mc_; have HB := hb_; clear nh_ nm_ mc_ hb_ hw_; (try clear hz14 fhz14 hz15 fhz15 hz16 fhz16 hz17 fhz17 hz18 fhz18 hz19 fhz19 hz20 fhz20 hz21 fhz21); have hz23 : w22.cell? ⟨gh, 0, none⟩ = some (.int .i64 a0_0) := (bC BKh.out 0).trans rfl; have fhz23 := bF BKh.out 0; have hz24 : w22.cell? ⟨gh, 1, none⟩ = some (.int .i64 a0_1) := (bC BKh.out 1).trans rfl; have fhz24 := bF BKh.out 1; have hz25 : w22.cell? ⟨gh, 2, none⟩ = some (.int .i64 a0_2) := (bC BKh.out 2).trans rfl; have fhz25 := bF BKh.out 2; have hz26 : w22.cell? ⟨gh, 3, none⟩ = some ((.slice A0_3 l0_3.length c0_3)) := (bC BKh.out 3).trans rfl; have fhz26 := bF BKh.out 3; have hz27 : w22.cell? ⟨gh, 4, none⟩ = some ((.slice A0_4 l0_4.length c0_4)) := (bC BKh.out 4).trans rfl; have fhz27 := bF BKh.out 4; have hz28 : w22.cell? ⟨gm, 0, none⟩ = some (.int .i64 c_) := (bC BKm.out 0).trans rfl; have fhz28 := bF BKm.out 0; have hz29 : w22.cell? ⟨gm, 1, none⟩ = some (.int .i64 s_) := (bC BKm.out 1).trans rfl; have fhz29 := bF BKm.out 1; have hz30 : w22.cell? ⟨gm, 2, none⟩ = some (.int .i64 q_) := (bC BKm.out 2).trans rfl; have fhz30 := bF BKm.out 2))
 refine bodyPost_ret (results_list (rs := [.tmp 6, .tmp 7]) rfl (by simp) (.tmp (.tmp .nil))) rfl ?_
 exact ⟨rfl, HB.out⟩


/-! ### a part of split_Cut -/
theorem split_classes_score.ta (v : Value) (w : World) : (Instr.typeAssert (.iface 81 v) 58 81 true).run Try.prog w = .ok (.tuple #[v, .bool true]) w := by kernel_rfl
attribute [local go_sem] split_classes_score.ta
def split_classes_score.f (k : Nat) (l0_0 : List Int) (l1_0 : List Int) : Option (Int × Int × Int) := (gini_Score.f k l0_0 l1_0).bind fun bt154 => (some (bt154.1, bt154.2.1, bt154.2.2))
theorem split_classes_score.mono : ∀ a0 a1 k, LeO (split_classes_score.f k a0 a1) (split_classes_score.f (k + 1) a0 a1) := by
 intro a0 a1 k
 unfold split_classes_score.f
 repeat' first
   | (with_reducible exact gini_Score.mono _ _ _)
   | (with_reducible exact LeO.refl _)
   | (with_reducible exact LeO.none _)
   | (with_reducible refine LeO.ite ?_ ?_)
   | (with_reducible refine LeO.bind ?_ (fun _ => ?_))
   | exact gini_Score.mono _ _ _
   | exact LeO.none _
   | refine LeO.ite ?_ ?_
   | refine LeO.bind ?_ (fun _ => ?_)
set_option maxHeartbeats 8000000 in
set_option maxRecDepth 100000 in
theorem split_classes_score.calls (k : Nat) (A0_0 : Option Addr) (c0_0 : Nat) (l0_0 : List Int) (A1_0 : Option Addr) (c1_0 : Nat) (l1_0 : List Int) (r1 : Int) (r2 : Int) (r3 : Int) (w : World) (hr0_0 : Kd.C (Kd.int .i64) w A0_0 l0_0.length l0_0) (hc0_0 : l0_0.length ≤ c0_0) (hr1_0 : Kd.C (Kd.int .i64) w A1_0 l1_0.length l1_0) (hc1_0 : l1_0.length ≤ c1_0) (h : split_classes_score.f k l0_0 l1_0 = some (r1, r2, r3)) :
  Calls Try.prog 79 #[.agg #[.slice A0_0 l0_0.length c0_0], .iface 81 (.agg #[.slice A1_0 l1_0.length c1_0])] w fun e w' => e = .returned (.agg #[.int .u64 r1, .int .u64 r2, .int .u64 r3]) ∧ Below w.heap.size w w' := by
 have hu81 := Try.underlying81
 have hu32 := Try.underlying32
 have HR0_0 := aaM hr0_0
 have HC0_0 := aaM hc0_0
 clear hr0_0 hc0_0
 have HR1_0 := aaM hr1_0
 have HC1_0 := aaM hc1_0
 clear hr1_0 hc1_0
 have HB := aaM (Below.refl w.heap.size w)
 have H : ((gini_Score.f k l0_0 l1_0).bind fun bt154 => (some (bt154.1, bt154.2.1, bt154.2.2))) = some (r1, r2, r3) := h
 clear h
 replace H := ooB.mp H
 obtain ⟨⟨t154, t155, t156⟩, A30, H⟩ := H
 replace H : (some (t154, t155, t156)) = some (r1, r2, r3) := H
 have A3 := aaM A30
 clear A30
 simp only [Option.some.injEq, Prod.mk.injEq] at H
 obtain ⟨rfl, rfl, rfl⟩ := H
 go_enter Try.func79, Try.ntmps79
 go_wp2_with (first | ((with_reducible refine gate_dst (N := 2) rfl ?_); refine box_event ?hg (N := 2) ?hd (cs := #[.slice A0_0 l0_0.length c0_0]) (t := 81) ?hr ?_; (case hd => rfl); (case hg => rfl); (case hr => first | (go_simp; done) | (go_simp; rfl)); intro gb151 hg w4 hbox hb; have hP_ := lQ (by repeat (first | (with_reducible first | exact HB.out | apply lA | apply lN | apply lD) | exact HB.out)) hb; replace HB := aaM hP_.1; have BK151 := aaM (hbox); have GW151 := aaM (gQ hg hP_.2); have GE151 := aaM (gQ hg hP_.2); clear hP_ hb hbox hg) | ((with_reducible refine gate_dst (N := 4) rfl ?_); refine box_event ?hg (N := 4) ?hd (cs := #[.int .u64 0, .int .u64 0, .int .u64 0]) (t := 32) ?hr ?_; (case hd => rfl); (case hg => rfl); (case hr => first | (go_simp; done) | (go_simp; rfl)); intro gb152 hg w5 hbox hb; have hP_ := lQ (by repeat (first | (with_reducible first | exact HB.out | apply lA | apply lN | apply lD | refine lS ?_ GE151.out) | exact HB.out)) hb; replace HB := aaM hP_.1; have BK152 := aaM (hbox); have GW152 := aaM (gQ hg hP_.2); have GE152 := aaM (gQ hg hP_.2); have NB151_152 := aaM (nL hg BK151.out); have NB152_151 := aaM (nL hg BK151.out).symm; replace BK151 := aaM (bX hb BK151.out); clear hP_ hb hbox hg) | ((with_reducible refine gate_dst (N := 5) rfl ?_); refine box_event ?hg (N := 5) ?hd (cs := #[.slice none 0 0]) (t := 81) ?hr ?_; (case hd => rfl); (case hg => rfl); (case hr => first | (go_simp; done) | (go_simp; rfl)); intro gb153 hg w6 hbox hb; have hP_ := lQ (by repeat (first | (with_reducible first | exact HB.out | apply lA | apply lN | apply lD | refine lS ?_ GE151.out | refine lS ?_ GE152.out) | exact HB.out)) hb; replace HB := aaM hP_.1; have BK153 := aaM (hbox); have GW153 := aaM (gQ hg hP_.2); have GE153 := aaM (gQ hg hP_.2); have NB151_153 := aaM (nL hg BK151.out); have NB153_151 := aaM (nL hg BK151.out).symm; replace BK151 := aaM (bX hb BK151.out); have NB152_153 := aaM (nL hg BK152.out); have NB153_152 := aaM (nL hg BK152.out).symm; replace BK152 := aaM (bX hb BK152.out); clear hP_ hb hbox hg; have hnb7 := NB153_151.out; have hnc7 := NB151_153.out; have hnb8 := NB153_152.out; have hnc8 := NB152_153.out; obtain ⟨hcz9_0, hfz9_0⟩ := bE1 BK153.out; have hnb10 := NB151_152.out; have hnc10 := NB152_151.out; obtain ⟨hcz11_0, hfz11_0⟩ := bE1 BK151.out) | ((with_reducible refine gate_callee (f := 82) rfl ?_); refine goesL_ (some 17) rfl rfl Try.func82 (by kernel_rfl) rfl #[.slice A0_0 l0_0.length c0_0, .slice A1_0 l1_0.length c1_0] rfl (by (try simp only [mmT, mmC, mmN]); first | done | rfl | (simp only [ddD, ddT]; rfl)) ?_; (with_reducible refine (gini_Score.calls k _ _ l0_0 _ _ l1_0 t154 t155 t156 _ ?side1 ?side2 ?side3 ?side4 A3.out).mono ?_); (case side1 => exact ccB HR0_0.out (by repeat (first | (with_reducible first | exact HB.out | apply lA | apply lN | apply lD | refine lS ?_ GE151.out | refine lS ?_ GE152.out | refine lS ?_ GE153.out) | exact HB.out))); (case side2 => exact HC0_0.out); (case side3 => exact ccB HR1_0.out (by repeat (first | (with_reducible first | exact HB.out | apply lA | apply lN | apply lD | refine lS ?_ GE151.out | refine lS ?_ GE152.out | refine lS ?_ GE153.out) | exact HB.out))); (case side4 => exact HC1_0.out); rintro e w12 ⟨rfl, hb⟩; refine ⟨_, rfl, ?_⟩; replace BK151 := aaM (bB (g := gb151) (o := .cells #[.slice A0_0 l0_0.length c0_0] 81 (0, 0)) (by (with_reducible repeat (first | refine bN ?_ _ | refine bD ?_ | refine bA ?_ _)); refine blk_far ?_ NB151_153.out _; (with_reducible repeat (first | refine bN ?_ _ | refine bD ?_ | refine bA ?_ _)); exact BK151.out) hb); replace BK152 := aaM (bB (g := gb152) (o := .cells #[.int .u64 0, .int .u64 0, .int .u64 0] 32 (0, 0)) (by (with_reducible repeat (first | refine bN ?_ _ | refine bD ?_ | refine bA ?_ _)); refine blk_far ?_ NB152_153.out _; (with_reducible repeat (first | refine bN ?_ _ | refine bD ?_ | refine bA ?_ _)); exact BK152.out) hb); replace BK153 := aaM (bB (g := gb153) (o := .cells #[.slice A1_0 l1_0.length c1_0] 81 (0, 0)) (by (with_reducible repeat (first | refine bN ?_ _ | refine bD ?_ | refine bA ?_ _)); refine blk_put (cs := #[.slice none 0 0]) ?_ 0 _ rfl; (with_reducible repeat (first | refine bN ?_ _ | refine bD ?_ | refine bA ?_ _)); exact BK153.out) hb); replace HB := aaM (lP (by repeat (first | (with_reducible first | exact HB.out | apply lA | apply lN | apply lD | refine lS ?_ GE151.out | refine lS ?_ GE152.out | refine lS ?_ GE153.out) | exact HB.out)) hb); (try clear hb); (try clear hb2); (try clear hk); (try clear hi); obtain ⟨hcz13_0, hcz13_1, hcz13_2, hfz13_0, hfz13_1, hfz13_2⟩ := bE3 BK152.out))
 refine bodyPost_ret (results_cell_row rfl _ _ gb152 32 #[.int .u64 t154, .int .u64 t155, .int .u64 t156] (0, 0) _ rfl (by (with_reducible repeat (first | refine bN ?_ _ | refine bD ?_ | refine bA ?_ _)); refine blk_put (cs := #[.int .u64 t154, .int .u64 t155, .int .u64 0]) ?_ 2 _ rfl; (with_reducible repeat (first | refine bN ?_ _ | refine bD ?_ | refine bA ?_ _)); refine blk_put (cs := #[.int .u64 t154, .int .u64 0, .int .u64 0]) ?_ 1 _ rfl; (with_reducible repeat (first | refine bN ?_ _ | refine bD ?_ | refine bA ?_ _)); refine blk_put (cs := #[.int .u64 0, .int .u64 0, .int .u64 0]) ?_ 0 _ rfl; (with_reducible repeat (first | refine bN ?_ _ | refine bD ?_ | refine bA ?_ _)); exact BK152.out) Try.underlying32 rfl (by kernel_rfl)) rfl ?_
 exact ⟨by first | rfl | (simp [errW_none, errW_some] <;> rfl) | (simp [*, errW_none, errW_some] <;> rfl), by repeat (first | (with_reducible first | exact HB.out | apply lA | apply lN | apply lD | refine lS ?_ GE151.out | refine lS ?_ GE152.out | refine lS ?_ GE153.out) | exact HB.out)⟩



end Go.Proofs.Ytancajnbjmcamaa.QSplitLeaf
