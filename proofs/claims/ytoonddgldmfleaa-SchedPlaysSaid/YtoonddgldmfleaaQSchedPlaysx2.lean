-- Written by a program of this session (wip/tools/mkprint.py over the kit's print); Lean checks it.
import Derived.Test.YtoonddgldmfleaaQSchedPlaysx0
namespace Go.Proofs.Ytoonddgldmfleaa.QSchedPlays
open Go.RowKit Go.Proofs.YtoonddgldmfleaaW.PrintWords Go.Proofs.YtoonddgldmfleaaW.PrintLast Go.Proofs.YtoonddgldmfleaaW.PrintMore
attribute [local go_sem] max2_int min2_int max_two min_two max_three min_three max_four min_four   -- for this text's walks alone
set_option linter.unusedVariables false
set_option linter.unusedSimpArgs false

/-! ### sched_over_1: function 81 -/
def sched_over_1.f (a0 : Int) : Option (Bool) := some (a0 != (-2))
set_option maxHeartbeats 8000000 in
set_option maxRecDepth 100000 in
theorem sched_over_1.calls (a0 : Int) (r : Bool) (w : World) (h : sched_over_1.f a0 = some r) :
  Calls Try.prog 81 #[.int .i64 a0] w fun e w' => e = .returned (.bool r) ∧ Drawn0 w w' := by
 have H : (some (a0 != (-2))) = some r := h
 clear h
 obtain rfl := Option.some.inj H
 go_enter Try.func81, Try.ntmps81
 go_wp2
 all_goals (go_ret; exact ⟨by first | rfl | (simp; done) | (simp [*]; done), by repeat (first | exact Drawn0.refl _ | apply Drawn0.step)⟩)

/-! ### sched_fits: function 65 -/
def sched_fits.f (a0 : Int) (a1 : Int) : Option (Bool) := if a0 ≥ 0 then (if a0 ≤ 1048576 then (if a1 ≥ 1 then (some (decide (a1 ≤ 64))) else (some false)) else (some false)) else (some false)
set_option maxHeartbeats 8000000 in
set_option maxRecDepth 100000 in
theorem sched_fits.calls (a0 : Int) (a1 : Int) (r : Bool) (w : World) (h : sched_fits.f a0 a1 = some r) :
  Calls Try.prog 65 #[.int .i64 a0, .int .i64 a1] w fun e w' => e = .returned (.bool r) ∧ Drawn0 w w' := by
 have H : (if a0 ≥ 0 then (if a0 ≤ 1048576 then (if a1 ≥ 1 then (some (decide (a1 ≤ 64))) else (some false)) else (some false)) else (some false)) = some r := h
 clear h
 by_cases c3 : a0 ≥ 0
 ·rw [if_pos c3] at H
  have c3b0 : decide (0 ≤ a0) = true := decide_eq_true c3
  clear c3
  by_cases c4 : a0 ≤ 1048576
  ·rw [if_pos c4] at H
   have c4b0 : decide (a0 ≤ 1048576) = true := decide_eq_true c4
   clear c4
   by_cases c5 : a1 ≥ 1
   ·rw [if_pos c5] at H
    have c5b0 : decide (1 ≤ a1) = true := decide_eq_true c5
    clear c5
    obtain rfl := Option.some.inj H
    go_enter Try.func65, Try.ntmps65
    go_wp2
    all_goals (go_ret; exact ⟨by first | rfl | (simp; done) | (simp [*]; done), by repeat (first | exact Drawn0.refl _ | apply Drawn0.step)⟩)
   ·rw [if_neg c5] at H
    have c5b0 : decide (1 ≤ a1) = false := decide_eq_false c5
    clear c5
    obtain rfl := Option.some.inj H
    go_enter Try.func65, Try.ntmps65
    go_wp2
    all_goals (go_ret; exact ⟨by first | rfl | (simp; done) | (simp [*]; done), by repeat (first | exact Drawn0.refl _ | apply Drawn0.step)⟩)
  ·rw [if_neg c4] at H
   have c4b0 : decide (a0 ≤ 1048576) = false := decide_eq_false c4
   clear c4
   obtain rfl := Option.some.inj H
   go_enter Try.func65, Try.ntmps65
   go_wp2
   all_goals (go_ret; exact ⟨by first | rfl | (simp; done) | (simp [*]; done), by repeat (first | exact Drawn0.refl _ | apply Drawn0.step)⟩)
 ·rw [if_neg c3] at H
  have c3b0 : decide (0 ≤ a0) = false := decide_eq_false c3
  clear c3
  obtain rfl := Option.some.inj H
  go_enter Try.func65, Try.ntmps65
  go_wp2
  all_goals (go_ret; exact ⟨by first | rfl | (simp; done) | (simp [*]; done), by repeat (first | exact Drawn0.refl _ | apply Drawn0.step)⟩)

/-! ### bits_Mul64: function 86 -/
def bits_Mul64.f (a0 : Int) (a1 : Int) : Option (Int × Int) := some (IntKind.u64.wrap ((IntKind.u64.wrap ((IntKind.u64.wrap ((a0 / 4294967296) * (a1 / 4294967296))) + ((IntKind.u64.wrap ((IntKind.u64.wrap ((a0 / 4294967296) * (Go.bits .and .u64 a1 4294967295))) + ((IntKind.u64.wrap ((Go.bits .and .u64 a0 4294967295) * (Go.bits .and .u64 a1 4294967295))) / 4294967296))) / 4294967296))) + ((IntKind.u64.wrap ((Go.bits .and .u64 (IntKind.u64.wrap ((IntKind.u64.wrap ((a0 / 4294967296) * (Go.bits .and .u64 a1 4294967295))) + ((IntKind.u64.wrap ((Go.bits .and .u64 a0 4294967295) * (Go.bits .and .u64 a1 4294967295))) / 4294967296))) 4294967295) + (IntKind.u64.wrap ((Go.bits .and .u64 a0 4294967295) * (a1 / 4294967296))))) / 4294967296)), IntKind.u64.wrap (a0 * a1))
set_option maxHeartbeats 8000000 in
set_option maxRecDepth 100000 in
theorem bits_Mul64.calls (a0 : Int) (a1 : Int) (r1 : Int) (r2 : Int) (w : World) (h : bits_Mul64.f a0 a1 = some (r1, r2)) :
  Calls Try.prog 86 #[.int .u64 a0, .int .u64 a1] w fun e w' => e = .returned (.tuple #[.int .u64 r1, .int .u64 r2]) ∧ Drawn0 w w' := by
 have H : (some (IntKind.u64.wrap ((IntKind.u64.wrap ((IntKind.u64.wrap ((a0 / 4294967296) * (a1 / 4294967296))) + ((IntKind.u64.wrap ((IntKind.u64.wrap ((a0 / 4294967296) * (Go.bits .and .u64 a1 4294967295))) + ((IntKind.u64.wrap ((Go.bits .and .u64 a0 4294967295) * (Go.bits .and .u64 a1 4294967295))) / 4294967296))) / 4294967296))) + ((IntKind.u64.wrap ((Go.bits .and .u64 (IntKind.u64.wrap ((IntKind.u64.wrap ((a0 / 4294967296) * (Go.bits .and .u64 a1 4294967295))) + ((IntKind.u64.wrap ((Go.bits .and .u64 a0 4294967295) * (Go.bits .and .u64 a1 4294967295))) / 4294967296))) 4294967295) + (IntKind.u64.wrap ((Go.bits .and .u64 a0 4294967295) * (a1 / 4294967296))))) / 4294967296)), IntKind.u64.wrap (a0 * a1))) = some (r1, r2) := h
 clear h
 simp only [Option.some.injEq, Prod.mk.injEq] at H
 obtain ⟨rfl, rfl⟩ := H
 go_enter Try.func86, Try.ntmps86
 go_wp2
 all_goals (go_ret2; exact ⟨by first | rfl | (simp; done) | (simp [*]; done), by repeat (first | exact Drawn0.refl _ | apply Drawn0.step)⟩)

/-! ### bits_Mul32: function 89 -/
def bits_Mul32.f (a0 : Int) (a1 : Int) : Option (Int × Int) := some (((IntKind.u64.wrap ((IntKind.u64.wrap (a0)) * (IntKind.u64.wrap (a1)))) / 4294967296) % 4294967296, (IntKind.u64.wrap ((IntKind.u64.wrap (a0)) * (IntKind.u64.wrap (a1)))) % 4294967296)
set_option maxHeartbeats 8000000 in
set_option maxRecDepth 100000 in
theorem bits_Mul32.calls (a0 : Int) (a1 : Int) (r1 : Int) (r2 : Int) (w : World) (h : bits_Mul32.f a0 a1 = some (r1, r2)) :
  Calls Try.prog 89 #[.int .u32 a0, .int .u32 a1] w fun e w' => e = .returned (.tuple #[.int .u32 r1, .int .u32 r2]) ∧ Drawn0 w w' := by
 have H : (some (((IntKind.u64.wrap ((IntKind.u64.wrap (a0)) * (IntKind.u64.wrap (a1)))) / 4294967296) % 4294967296, (IntKind.u64.wrap ((IntKind.u64.wrap (a0)) * (IntKind.u64.wrap (a1)))) % 4294967296)) = some (r1, r2) := h
 clear h
 simp only [Option.some.injEq, Prod.mk.injEq] at H
 obtain ⟨rfl, rfl⟩ := H
 go_enter Try.func89, Try.ntmps89
 go_wp2
 all_goals (go_ret2; exact ⟨by first | rfl | (simp; done) | (simp [*]; done), by repeat (first | exact Drawn0.refl _ | apply Drawn0.step)⟩)

/-! ### bits_Mul: function 87 -/
def bits_Mul.f (a0 : Int) (a1 : Int) : Option (Int × Int) := (bits_Mul64.f a0 a1).bind fun bt101 => (some (bt101.1, bt101.2))
set_option maxHeartbeats 8000000 in
set_option maxRecDepth 100000 in
theorem bits_Mul.calls (a0 : Int) (a1 : Int) (r1 : Int) (r2 : Int) (w : World) (h : bits_Mul.f a0 a1 = some (r1, r2)) :
  Calls Try.prog 87 #[.int .u64 a0, .int .u64 a1] w fun e w' => e = .returned (.tuple #[.int .u64 r1, .int .u64 r2]) ∧ Drawn0 w w' := by
 have H : ((bits_Mul64.f a0 a1).bind fun bt101 => (some (bt101.1, bt101.2))) = some (r1, r2) := h
 clear h
 replace H := ooB.mp H
 obtain ⟨⟨t101, t102⟩, A30, H⟩ := H
 replace H : (some (t101, t102)) = some (r1, r2) := H
 have A3 := aaM A30
 clear A30
 simp only [Option.some.injEq, Prod.mk.injEq] at H
 obtain ⟨rfl, rfl⟩ := H
 go_enter Try.func87, Try.ntmps87
 go_wp2_with (first | ((with_reducible refine gate_callee (f := 86) rfl ?_); refine goesL_ (some 25) rfl rfl Try.func86 (by kernel_rfl) rfl #[.int .u64 a0, .int .u64 a1] rfl (by (try simp only [List.map_toArray, List.map_cons, List.map_nil]); first | done | rfl | (simp only [List.length_drop, List.length_take]; rfl)) ?_; (with_reducible refine (bits_Mul64.calls a0 a1 t101 t102 _ A3.out).mono ?_); rintro e w' ⟨rfl, ⟨nd, rfl⟩⟩; refine ⟨_, rfl, ?_⟩))
 all_goals (go_ret2; exact ⟨by first | rfl | (simp; done) | (simp [*]; done), by repeat (first | exact Drawn0.refl _ | apply Drawn0.step)⟩)

/-! ### slices_Repeat_int_int: function 74 -/
def slices_Repeat_int_int.f (l : List Int) (n : Int) : Option (List Int) := if l.length = 1 ∧ 1 ≤ n ∧ n ≤ 1000 then some (List.replicate n.toNat (rd l 0)) else none
theorem slices_Repeat_int_int.mul_one (n : Int) (h0 : 1 ≤ n) (h1 : n ≤ 1000) : bits_Mul.f 1 n = some (0, n) := by
 have e : ∀ m : Nat, m ≤ 1000 → bits_Mul.f 1 (m : Int) = some (0, (m : Int)) := by decide +kernel
 have := e n.toNat (by omega)
 rwa [show ((n.toNat : Nat) : Int) = n by omega] at this
/-- The first m cells hold x. -/
def slices_Repeat_int_int.Holds (cur : List Value) (m : Nat) (x : Int) : Prop := ∀ j, j < m → cur[j]? = some (.int .i64 x)
theorem slices_Repeat_int_int.holds_splice {cur : List Value} {m c : Nat} {x : Int} (h : slices_Repeat_int_int.Holds cur m x) (hm : m + c ≤ cur.length) : slices_Repeat_int_int.Holds (splice cur m (List.replicate c (.int .i64 x))) (m + c) x := by
 intro j hj
 unfold splice
 by_cases h1 : j < m
 ·rw [List.getElem?_append_left (by rw [List.length_take]; omega), List.getElem?_take_of_lt h1]
  exact h j h1
 ·rw [List.getElem?_append_right (by rw [List.length_take]; omega), List.length_take, Nat.min_eq_left (by omega), List.getElem?_append_left (by rw [List.length_replicate]; omega), List.getElem?_replicate, if_pos (by omega)]
theorem slices_Repeat_int_int.row_of {w : World} {base gS cap n : Nat} {x : Int} {cur : List Value} (hb : base ≤ gS) (hh : w.heap[gS]? = some (.cells cur.toArray 3 (0, 0))) (hc : cur.length = cap) (hn : n ≤ cap) (hm : cap ≤ maxLen) (h : slices_Repeat_int_int.Holds cur n x) :
  Kd.R (Kd.int .i64) 3 w base (fun _ => True) (.slice (some ⟨gS, 0, none⟩) n cap) (List.replicate n x) := by
 have hl : (List.replicate n x).length = n := List.length_replicate
 have : w.ownsRow base 3 1 (.slice (some ⟨gS, 0, none⟩) n cap) (List.replicate n x).length (encs (Value.int .i64) (List.replicate n x)) := by
  refine ⟨by simp [encs], .inr ⟨gS, cap, cur.toArray, by rw [hl], hb, hh, by rw [hl]; exact hn, hm, by simpa using hc, ?_⟩⟩
  rw [hl, Nat.mul_one]
  apply List.ext_getElem?
  intro j
  by_cases hj : j < n
  ·rw [List.getElem?_take_of_lt hj]
   show cur[j]? = _
   rw [h j hj]
   simp [encs, hj]
  ·rw [List.getElem?_eq_none (by rw [List.length_take]; omega), List.getElem?_eq_none (by simp [encs]; omega)]
 exact Kd.R_of_own this (fun _ _ => trivial)
set_option maxHeartbeats 4000000 in
set_option maxRecDepth 100000 in
theorem slices_Repeat_int_int.walk (ad : Addr) (c0 : Nat) (x : Int) (p : Nat) (w : World) (hx : w.cell? ad = some (.int .i64 x)) (hn0 : 1 ≤ p) (hn1 : p ≤ 1000) :
  Calls Try.prog 74 #[.slice (some ad) 1 c0, .int .i64 (p : Int)] w fun e w' => ∃ v0_ : Value, e = .returned (v0_) ∧ Kd.R (Kd.int .i64) 3 w' w.heap.size (fun _ => True) v0_ (List.replicate p x) ∧ Below w.heap.size w w' := by
 have HM := aaM (slices_Repeat_int_int.mul_one (p : Int) (by omega) (by omega))
 have HX := aaM hx
 have HN := aaM (And.intro hn0 hn1)
 have d1 : decide ((p : Int) < 0) = false := decide_eq_false (by omega)
 have d2 : IntKind.u64.wrap (p : Int) = (p : Int) := by simp [IntKind.wrap, IntKind.signed, IntKind.bits]; omega
 have d3 : decide (0 < (0 : Int)) = false := rfl
 have d4 : decide (9223372036854775807 < (p : Int)) = false := decide_eq_false (by omega)
 have d5 : wrap64 (p : Int) = (p : Int) := by unfold wrap64; omega
 have HW := aaM d5
 have HB := aaM (Below.refl w.heap.size w)
 clear hx hn0 hn1
 go_enter Try.func74, Try.ntmps74
 go_wp2_with (first | ((with_reducible refine gate_callee (f := 87) rfl ?_); refine goesL_ (some 18) rfl rfl Try.func87 (by kernel_rfl) rfl #[.int .u64 1, .int .u64 (p : Int)] rfl (by (try simp only [List.map_toArray, List.map_cons, List.map_nil]); first | done | rfl) ?_; (with_reducible refine (bits_Mul.calls 1 (p : Int) 0 (p : Int) _ HM.out).mono ?_); rintro e w' ⟨rfl, ⟨nd, rfl⟩⟩; refine ⟨_, rfl, ?_⟩) | ((with_reducible refine gate_dst (N := 30) rfl ?_); refine Kd.R_make (w0 := w) (Kd.int .i64) w.heap.size 3 rfl (N := 30) rfl 38 _ _ rfl (wrap64 (p : Int)) rfl rfl Try.underlying38 (.int .i64 0) 8 info3 rfl (by decide) (by omega) 0 (ok := fun _ => True) (okp := fun _ => True) rfl (fun _ hk => hk) trivial (by have := HN.out; have := HW.out; omega) (by have := HN.out; have := HW.out; omega) (lN HB.out _) (Nat.le_refl _) ?_; intro v1 w1 ho hb hg hnew; have ho2 : Kd.R (Kd.int .i64) 3 w1 w.heap.size (fun _ => True) v1 (List.replicate p 0) := (by rw [HW.out, Int.toNat_natCast] at ho; exact ho); obtain ⟨inner_, hin_⟩ := Kd.R_own ho2; rw [List.length_replicate] at hin_; obtain ⟨_, hr_⟩ := hin_; have HB1 := aaM hb; obtain ⟨gS, cap, e1_, hgS, hlS, cells_, _⟩ := Kd.R_form ho2 (by rw [List.length_replicate]; have := HN.out; omega); rw [List.length_replicate] at e1_; subst e1_; obtain ⟨cur_, hh_, hn_, hm_, hs_⟩ : ∃ cur_ : List Value, w1.heap[gS]? = some (.cells cur_.toArray 3 (0, 0)) ∧ p ≤ cap ∧ cap ≤ maxLen ∧ cur_.length = cap := (by rcases hr_ with ⟨e_, _⟩ | ⟨g_, cap_, cur_, e_, _, hh_, hn_, hm_, hs_, _⟩; (cases e_); (cases e_; exact ⟨cur_.toList, hh_, hn_, hm_, by (have h_ : cur_.size = cap * 1 := hs_); simpa using h_⟩)); have HG := aaM hgS; have HH := aaM hh_; have HS := aaM (And.intro hn_ (And.intro hm_ hs_)); clear ho ho2 hb hg hnew hr_ hgS hlS hh_ hn_ hm_ hs_) | ((with_reducible refine gate_dst (N := 33) rfl ?_); refine wpList_copy_splice rfl (.tmp 31) (.tmp 32) 38 38 rfl 3 Try.underlying38 (by kernel_rfl) (some ⟨gS, 0, none⟩) (some ad) p cap 1 c0 (by rfl) (by rfl) gS 0 cur_ 3 HH.out [.int .i64 x] ?c1 ?c2 ?c3 ?c4 w.heap.size w HB1.out HG.out ?_; (case c1 => have h_ := HN.out; show 1 = min 1 p; omega); (case c2 => intro _; refine ⟨rfl, ad, rfl, fun j v hj => ?_⟩; cases j with | zero => (have e_ : v = .int .i64 x := by simpa using hj.symm); subst e_; exact pw_cell_below HB1.out HX.out | succ j => (simp at hj)); (case c3 => have h_ := HN.out; have h2_ := HS.out; show 0 + 1 ≤ cur_.length; omega); (case c4 => intro v hv; (have e_ : v = .int .i64 x := by simpa using hv); subst e_; rfl); intro w2 hg2 hb2; have HH2 := aaM hg2.out; have HB2 := aaM hb2; clear hg2 hb2))
 have HH0 : Aside0 (slices_Repeat_int_int.Holds (splice cur_ 0 [.int .i64 x]) 1 x ∧ (splice cur_ 0 [.int .i64 x]).length = cap) := ⟨by
  have hs_ := HS.out
  have hn_ := HN.out
  have := slices_Repeat_int_int.holds_splice (cur := cur_) (m := 0) (c := 1) (x := x) (fun j hj => by omega) (by omega)
  exact ⟨by simpa using this, by rw [length_splice _ _ _ (by simp; omega)]; exact hs_.2.2⟩⟩
 go_loopw [8] (fun v8 w' => ∃ m : Nat, v8 = .int .i64 (m : Int) ∧ Aside0 (1 ≤ m ∧ m ≤ p) ∧ (∃ cur : List Value, Aside0 (w'.heap[gS]? = some (.cells cur.toArray 3 (0, 0))) ∧ Aside0 (slices_Repeat_int_int.Holds cur m x ∧ cur.length = cap)) ∧ Aside0 (Below w.heap.size w w')) (fun v8 _ => p - (intOf v8).toNat)
 case atStart => exact ⟨1, rfl, ⟨Nat.le_refl _, by have := HN.out; omega⟩, ⟨_, HH2, HH0⟩, HB2⟩
 case round =>
  obtain ⟨m, rfl, HM1, ⟨cur, HC, HC1⟩, HBr⟩ := hrel
  by_cases hlt : m < p
  ·have HLT := aaM hlt
   have q1 : decide (m < p) = true := decide_eq_true hlt
   have q2 : decide ((m : Int) < (p : Int)) = true := decide_eq_true (by omega)
   have q3 : (0 : Int) ≤ (m : Int) := by omega
   have q4 : (m : Int) ≤ (p : Int) := by omega
   have q5 : (p : Int) ≤ (cap : Int) := by have := HS.out; omega
   have q6 : (m : Int) ≤ (cap : Int) := by have := HS.out; omega
   have q7 : ¬ cap = m := by have := HS.out; omega
   have q8 : m ≤ p := by omega
   have q9 : p ≤ cap := HS.out.1
   have q10 : m ≤ cap := by omega
   clear hlt
   obtain ⟨c, hc⟩ : ∃ c, c = min m (p - m) := ⟨_, rfl⟩
   have HCC := aaM hc
   obtain ⟨cs, hcs⟩ : ∃ cs, cs = List.replicate c (Value.int .i64 x) := ⟨_, rfl⟩
   have HCS := aaM hcs
   clear hc hcs
   have HL := aaM (show cs.length = c by rw [HCS.out, List.length_replicate])
   go_wp2
   go_region_held3 (fun w' => True) (trivial) ((refine step_copy_splice (by rfl) (.tmp 41) (.tmp 44) 38 38 (by rfl) 3 Try.underlying38 (by kernel_rfl) (some ⟨gS, m, none⟩) (some ⟨gS, 0, none⟩) (p - m) (cap - m) m cap (by rfl) (by rfl) gS m cur 3 HC.out cs (by rw [HL.out]; exact HCC.out) (fun _ => ⟨rfl, ⟨gS, 0, none⟩, rfl, fun j v hj => by (have hj2 : j < c := by (have hj3 := (List.getElem?_eq_some_iff.1 hj).1); rw [HL.out] at hj3; exact hj3); (have hv : v = .int .i64 x := by (have hj3 := List.getElem?_replicate (a := Value.int .i64 x) (n := c) (i := j)); rw [if_pos hj2, ← HCS.out, hj] at hj3; exact Option.some.inj hj3); subst hv; rw [add_plain]; exact (bC HC.out j).trans (by (have h_ := HC1.out.1 j (by have h4_ := HCC.out; omega)); simpa using h_)⟩) (by have h1_ := HC1.out.2; have h2_ := HLT.out; have h3_ := HS.out; have h4_ := HCC.out; have h5_ := HL.out; omega) (by rw [HCS.out]; intro v hv; (obtain ⟨_, rfl⟩ := List.mem_replicate.1 hv); rfl) w.heap.size w (by repeat (first | exact HBr.out | apply lD | apply lN)) HG.out ?_; intro w4 hg4 hb4; have HG4 := aaM hg4.out; have HB4 := aaM hb4; clear hg4 hb4))
   try go_wp2
   have h1_ := HC1.out
   have h2_ := HLT.out
   have h3_ := HS.out
   have h4_ := HCC.out
   have h5_ := HM1.out
   have h6_ := HN.out
   have hw : IntKind.i64.wrap ((m : Int) + (cs.length : Int)) = ((m + c : Nat) : Int) := by
    rw [HL.out]
    rw [i64_w]
    unfold wrap64
    omega
   rw [hw]
   refine ⟨⟨m + c, rfl, ⟨by omega⟩, ⟨splice cur m cs, HG4, ⟨by rw [HCS.out]; exact slices_Repeat_int_int.holds_splice h1_.1 (by omega), by rw [length_splice _ _ _ (by rw [HL.out]; omega)]; exact h1_.2⟩⟩, HB4⟩, ?_⟩
   show p - ((m + c : Nat) : Int).toNat < p - ((m : Nat) : Int).toNat
   omega
  ·have HE := aaM (show m = p by have := HM1.out; omega)
   have q1 : decide (m < p) = false := decide_eq_false hlt
   have q2 : decide ((m : Int) < (p : Int)) = false := decide_eq_false (by omega)
   clear hlt
   go_wp2
   go_ret
   exact ⟨_, rfl, slices_Repeat_int_int.row_of HG.out HC.out HC1.out.2 HS.out.1 HS.out.2.1 (by rw [← HE.out]; exact HC1.out.1), HBr.out⟩
theorem slices_Repeat_int_int.calls (A0 : Option Addr) (c0 : Nat) (l0 : List Int) (a1 : Int) (r : List Int) (w : World) (hr0 : Kd.C (Kd.int .i64) w A0 l0.length l0) (hc0 : l0.length ≤ c0) (h : slices_Repeat_int_int.f l0 a1 = some r) :
  Calls Try.prog 74 #[.slice A0 l0.length c0, .int .i64 a1] w fun e w' => ∃ v0_ : Value, e = .returned (v0_) ∧ Kd.R (Kd.int .i64) 3 w' w.heap.size (fun _ => True) v0_ r ∧ Below w.heap.size w w' := by
 unfold slices_Repeat_int_int.f at h
 split at h
 ·rename_i hc
  obtain ⟨hl, h0, h1⟩ := hc
  obtain rfl := Option.some.inj h
  obtain ⟨ad, e, hx⟩ := Kd.at_int hr0 0 (by omega) (by omega)
  subst e
  obtain ⟨p, rfl⟩ := Int.eq_ofNat_of_zero_le (show 0 ≤ a1 by omega)
  have hx2 : w.cell? ad = some (.int .i64 (rd l0 0)) := by
   rw [show ad.add ((0 : Int).toNat) = ad by unfold Addr.add; simp] at hx
   exact hx
  rw [hl, Int.toNat_natCast]
  exact slices_Repeat_int_int.walk ad c0 (rd l0 0) p w hx2 (by omega) (by omega)
 ·cases h


/-! ### sched_New: function 52 -/
def sched_New.f (a0 : Int) (a1 : Int) : Option (Int × Int × Int × List Int × List Bool × Bool × Int) := (sched_fits.f a0 a1).bind fun t104 => (if t104 = true then ((slices_Repeat_int_int.f (([(-1)] : List Int)) a1).bind fun t108 => (if 0 ≤ a0 then (if (a0 : Int).toNat ≤ 281474976710656 then (some (a0, a1, 0, t108, (List.replicate (a0 : Int).toNat false), false, 0)) else (none)) else (none))) else (some (0, 0, 0, ([] : List Int), ([] : List Bool), false, 1)))
def sched_New.T3 : Bool × List (List Nat × List Nat) := (true, [([], []), ([], []), ([], []), ([], []), ([2, 3], [2, 3]), ([], []), ([5, 5], [5]), ([0, 1, 4, 6], [0, 1, 4, 6]), ([7, 4, 0, 1, 2, 3, 4, 5, 6, 7], [7]), ([8, 0, 1, 2, 3, 4, 5, 6, 7, 8], [])])
def sched_New.B3 : List Nat := [0, 0, 0, 0, 12, 0, 32, 127, 255, 511]
theorem sched_New.tab3 : rtab .any (opsOf Try.f52 3) = sched_New.T3 := by kernel_rfl
theorem sched_New.bits3 : waitsOk sched_New.T3.2 sched_New.B3 = true := by kernel_rfl
set_option maxHeartbeats 8000000 in
set_option maxRecDepth 100000 in
theorem sched_New.calls (a0 : Int) (a1 : Int) (r1 : Int) (r2 : Int) (r3 : Int) (r4 : List Int) (r5 : List Bool) (r6 : Bool) (r7 : Int) (w : World) (h : sched_New.f a0 a1 = some (r1, r2, r3, r4, r5, r6, r7)) :
  Calls Try.prog 52 #[.int .i64 a0, .int .i64 a1] w fun e w' => ∃ v3_ v4_ : Value, e = .returned (.tuple #[.agg #[.int .i64 r1, .int .i64 r2, .int .i64 r3, v3_, v4_, .bool r6], .int .i64 r7]) ∧ Kd.R (Kd.int .i64) 3 w' w.heap.size (fun _ => True) v3_ r4 ∧ Kd.R Kd.bool 4 w' w.heap.size (fun _ => True) v4_ r5 ∧ Below w.heap.size w w' := by
 have hu42 := Try.underlying42
 have HB := aaM (Below.refl w.heap.size w)
 have H : ((sched_fits.f a0 a1).bind fun t104 => (if t104 = true then ((slices_Repeat_int_int.f (([(-1)] : List Int)) a1).bind fun t108 => (if 0 ≤ a0 then (if (a0 : Int).toNat ≤ 281474976710656 then (some (a0, a1, 0, t108, (List.replicate (a0 : Int).toNat false), false, 0)) else (none)) else (none))) else (some (0, 0, 0, ([] : List Int), ([] : List Bool), false, 1)))) = some (r1, r2, r3, r4, r5, r6, r7) := h
 clear h
 replace H := ooB.mp H
 obtain ⟨t104, A30, H⟩ := H
 replace H : (if t104 = true then ((slices_Repeat_int_int.f (([(-1)] : List Int)) a1).bind fun t108 => (if 0 ≤ a0 then (if (a0 : Int).toNat ≤ 281474976710656 then (some (a0, a1, 0, t108, (List.replicate (a0 : Int).toNat false), false, 0)) else (none)) else (none))) else (some (0, 0, 0, ([] : List Int), ([] : List Bool), false, 1))) = some (r1, r2, r3, r4, r5, r6, r7) := H
 have A3 := aaM A30
 clear A30
 by_cases c4 : t104 = true
 ·subst c4
  have H1 : ((slices_Repeat_int_int.f (([(-1)] : List Int)) a1).bind fun t108 => (if 0 ≤ a0 then (if (a0 : Int).toNat ≤ 281474976710656 then (some (a0, a1, 0, t108, (List.replicate (a0 : Int).toNat false), false, 0)) else (none)) else (none))) = some (r1, r2, r3, r4, r5, r6, r7) := by rw [if_pos rfl] at H; exact H
  clear H
  have H := H1
  clear H1
  obtain ⟨y105, hy105⟩ : ∃ y_ : List Int, y_ = (([(-1)] : List Int)) := ⟨_, rfl⟩
  replace H : ((slices_Repeat_int_int.f y105 a1).bind fun t108 => (if 0 ≤ a0 then (if (a0 : Int).toNat ≤ 281474976710656 then (some (a0, a1, 0, t108, (List.replicate (a0 : Int).toNat false), false, 0)) else (none)) else (none))) = some (r1, r2, r3, r4, r5, r6, r7) := by first | (rw [hy105]; with_reducible exact H) | (have H2_ := (Option.bind_some _ _).symm.trans H; rw [hy105]; with_reducible exact H2_) | (have H2_ := (Option.bind_some _ _).symm.trans H; with_reducible exact H2_) | with_reducible exact H | (rw [hy105]; exact H) | exact H
  have Ny105 := aaM hy105
  clear hy105
  replace H := ooB.mp H
  obtain ⟨t108, A50, H⟩ := H
  replace H : (if 0 ≤ a0 then (if (a0 : Int).toNat ≤ 281474976710656 then (some (a0, a1, 0, t108, (List.replicate (a0 : Int).toNat false), false, 0)) else (none)) else (none)) = some (r1, r2, r3, r4, r5, r6, r7) := H
  have A5 := aaM A50
  clear A50
  by_cases c6 : 0 ≤ a0
  ·rw [if_pos c6] at H
   have c6b0 := eq_true c6
   have c6b1 : decide (0 ≤ a0) = true := decide_eq_true c6
   clear c6
   by_cases c7 : (a0 : Int).toNat ≤ 281474976710656
   ·rw [if_pos c7] at H
    have c7b0 := eq_true c7
    have c7b1 : decide ((a0 : Int).toNat ≤ 281474976710656) = true := decide_eq_true c7
    clear c7
    obtain ⟨y111, hy111⟩ : ∃ y_ : List Bool, y_ = (List.replicate (a0 : Int).toNat false) := ⟨_, rfl⟩
    replace H : (some (a0, a1, 0, t108, y111, false, 0)) = some (r1, r2, r3, r4, r5, r6, r7) := by first | (rw [hy111]; with_reducible exact H) | (have H2_ := (Option.bind_some _ _).symm.trans H; rw [hy111]; with_reducible exact H2_) | (have H2_ := (Option.bind_some _ _).symm.trans H; with_reducible exact H2_) | with_reducible exact H | (rw [hy111]; exact H) | exact H
    have Ny111 := aaM hy111
    clear hy111
    simp only [Option.some.injEq, Prod.mk.injEq] at H
    obtain ⟨rfl, rfl, rfl, rfl, rfl, rfl, rfl⟩ := H
    go_enter Try.func52, Try.ntmps52
    try go_wp2_with (first | ((with_reducible refine gate_dst (N := 4) rfl ?_); refine box_event ?hg (N := 4) ?hd (cs := #[.int .i64 0, .int .i64 0, .int .i64 0, .slice none 0 0, .slice none 0 0, .bool false]) (t := 42) ?hr ?_; (case hd => rfl); (case hg => rfl); (case hr => first | (go_simp; done) | (go_simp; rfl)); intro gb103 hg w8 hbox hb; have n0_ := aaM (lP (by repeat (first | (with_reducible first | exact HB.out | apply lA | apply lN | apply lD) | exact HB.out)) hb); have n1_ := aaM (hbox); have n2_ := aaM ((by rw [hg]; exact (lZ (by repeat (first | (with_reducible first | exact HB.out | apply lA | apply lN | apply lD) | exact HB.out))) : w.heap.size ≤ gb103)); have n3_ := aaM ((by rw [hg]; exact (lZ (by repeat (first | (with_reducible first | exact HB.out | apply lA | apply lN | apply lD) | exact HB.out))) : w.heap.size ≤ gb103)); clear HB; have HB := n0_; have BK103 := n1_; have GW103 := n2_; have GE103 := n3_; clear n0_ n1_ n2_ n3_; clear hb hbox hg) | ((with_reducible refine gate_callee (f := 65) rfl ?_); refine goesL_ (some 8) rfl rfl Try.func65 (by kernel_rfl) rfl #[.int .i64 a0, .int .i64 a1] rfl (by (try simp only [List.map_toArray, List.map_cons, List.map_nil]); first | done | rfl | (simp only [List.length_drop, List.length_take]; rfl)) ?_; (with_reducible refine (sched_fits.calls a0 a1 true _ A3.out).mono ?_); rintro e w' ⟨rfl, ⟨nd, rfl⟩⟩; refine ⟨_, rfl, ?_⟩; (try (rw [drewN_self w8]; generalize hq_ : World.drewN w8 _ = w8; have n0_ : Aside0 (w8.heap[gb103]? = some (.cells #[.int .i64 0, .int .i64 0, .int .i64 0, .slice none 0 0, .slice none 0 0, .bool false] 42 (0, 0))) := ⟨by rw [← hq_]; exact (by (with_reducible repeat (first | refine bN ?_ _ | refine bD ?_ | refine bA ?_ _)); exact BK103.out)⟩; have n1_ : Aside0 (Below w.heap.size w w8) := ⟨by rw [← hq_]; exact (by repeat (first | (with_reducible first | exact HB.out | apply lA | apply lN | apply lD | refine lS ?_ GE103.out) | exact HB.out))⟩; clear BK103 HB hq_; have BK103 := n0_; have HB := n1_; clear n0_ n1_; have hcy103_0 : w8.cell? ⟨gb103, 0, none⟩ = some (.int .i64 0) := (bC BK103.out 0).trans rfl; have hfy103_0 := bF BK103.out 0; have hcy103_1 : w8.cell? ⟨gb103, 1, none⟩ = some (.int .i64 0) := (bC BK103.out 1).trans rfl; have hfy103_1 := bF BK103.out 1; have hcy103_2 : w8.cell? ⟨gb103, 2, none⟩ = some (.int .i64 0) := (bC BK103.out 2).trans rfl; have hfy103_2 := bF BK103.out 2; have hcy103_3 : w8.cell? ⟨gb103, 3, none⟩ = some (.slice none 0 0) := (bC BK103.out 3).trans rfl; have hfy103_3 := bF BK103.out 3; have hcy103_4 : w8.cell? ⟨gb103, 4, none⟩ = some (.slice none 0 0) := (bC BK103.out 4).trans rfl; have hfy103_4 := bF BK103.out 4; have hcy103_5 : w8.cell? ⟨gb103, 5, none⟩ = some (.bool false) := (bC BK103.out 5).trans rfl; have hfy103_5 := bF BK103.out 5))))
    have n0_ := aaM (bD BK103.out)
    have n1_ := aaM (lD HB.out)
    clear BK103 HB
    have BK103 := n0_
    have HB := n1_
    clear n0_ n1_
    refine start_ (n := 10) (S := fun w' => True) (ds := []) #[false, false, false, false, false, false, false, false, false, false] (by kernel_rfl) rfl rfl trivial (fun hHeld => ?_); refine with_tabW sched_New.tab3 sched_New.bits3 (fun HT_ HW_ => ?_)
    generalize w8.drew = w9 at BK103 HB hHeld ⊢
    refine pure_ (i := 0) (N := some 11) (v := ?_) (a' := ?_) #[true, false, false, false, false, false, false, false, false, false] rfl rfl (any_of HT_.out (by kernel_rfl)) (fun _ _ _ h => h) (Or.inl ⟨by rfl, ?_⟩) ?_ ?_
    rotate_left
    ·intro w'
     go_simp
     with_reducible rfl
    rotate_left
    ·simp only [Act.put, ssB, ssZ, ssS, i64_w, i32_w]
     rfl
    refine pure_ (i := 1) (N := some 12) (v := ?_) (a' := ?_) #[true, true, false, false, false, false, false, false, false, false] rfl rfl (any_of HT_.out (by kernel_rfl)) (fun _ _ _ h => h) (Or.inl ⟨by rfl, ?_⟩) ?_ ?_
    rotate_left
    ·intro w'
     go_simp
     with_reducible rfl
    rotate_left
    ·simp only [Act.put, ssB, ssZ, ssS, i64_w, i32_w]
     rfl
    refine pure_ (i := 3) (N := some 14) (v := ?_) (a' := ?_) #[true, true, false, true, false, false, false, false, false, false] rfl rfl (any_of HT_.out (by kernel_rfl)) (fun _ _ _ h => h) (Or.inl ⟨by rfl, ?_⟩) ?_ ?_
    rotate_left
    ·intro w'
     go_simp
     with_reducible rfl
    rotate_left
    ·simp only [Act.put, ssB, ssZ, ssS, i64_w, i32_w]
     rfl
    refine pure_ (i := 5) (N := some 16) (v := ?_) (a' := ?_) #[true, true, false, true, false, true, false, false, false, false] rfl rfl (any_of HT_.out (by kernel_rfl)) (fun _ _ _ h => h) (Or.inl ⟨by rfl, ?_⟩) ?_ ?_
    rotate_left
    ·intro w'
     go_simp
     with_reducible rfl
    rotate_left
    ·simp only [Act.put, ssB, ssZ, ssS, i64_w, i32_w]
     rfl
    refine join_ (σ := Value × Value × Value) 3 #[true, true, true, true, true, true, true, false, false, false] (fun s_ => [(13, s_.1), (15, s_.2.1), (17, s_.2.2)]) (fun s_ w' => (Kd.R (Kd.int .i64) 3 w' w.heap.size (fun k_ => some k_ ≠ (s_.2.1 : Value).ownBlock) s_.1 y105) ∧ (Kd.R (Kd.int .i64) 3 w' w.heap.size (fun k_ => some k_ ≠ (s_.1 : Value).ownBlock) s_.2.1 t108) ∧ (Kd.R Kd.bool 4 w' w.heap.size (fun _ => True) s_.2.2 y111) ∧ (w'.heap[gb103]? = some (.cells #[.int .i64 0, .int .i64 0, .int .i64 0, .slice none 0 0, .slice none 0 0, .bool false] 42 (0, 0))) ∧ (Below w.heap.size w w')) ?_ ?_
    rotate_left
    ·intro hCont
     refine two_ (i := 2) (j := 6) (Ni := some 13) (Nj := some 17) #[true, true, true, true, false, true, false, false, false, false] #[true, true, false, true, false, true, true, false, false, false] rfl rfl rfl rfl (two_of HT_.out (by kernel_rfl)) (by decide) (by decide) (fun K hK => ?_) (fun K hK => ?_)
     ·skip
      refine Kd.R_lit_step (Kd.int .i64) _ 3 ?hg (N := 13) ?hd (xs := ([(-1)] : List Int)) (inner := [.int .i64 (-1)]) (ok := fun _ => True) (okp := fun _ => True) ?hr ?hp (fun _ hk => hk) trivial (Below.refl _ _) (Nat.le_refl _) (by simp) ?_; (case hd => rfl); (case hg => rfl); (case hr => first | (go_simp; done) | (go_simp; rfl)); (case hp => exact (Reps.one (show Kd.M (Kd.int .i64) _ _ _ (-1) [.int .i64 (-1)] from rfl) (Reps.none _ _)))
      intro v106 w10 ho11 hb hg_ hnew_
      clear hg_ hnew_
      (first | rw [← Ny105.out] at ho11 | (simp only [Int.reduceToNat] at ho11; rw [← Ny105.out] at ho11))
      have n0_ := aaM (Kd.R_lower ho11 (lZ (by repeat (first | (with_reducible first | exact HB.out | apply lA | apply lN | apply lD | refine lS ?_ GE103.out) | exact HB.out))))
      have n1_ := aaM (bB (g := gb103) (o := .cells #[.int .i64 0, .int .i64 0, .int .i64 0, .slice none 0 0, .slice none 0 0, .bool false] 42 (0, 0)) (by (with_reducible repeat (first | refine bN ?_ _ | refine bD ?_ | refine bA ?_ _)); exact BK103.out) hb)
      have n2_ := aaM (lP (by repeat (first | (with_reducible first | exact HB.out | apply lA | apply lN | apply lD | refine lS ?_ GE103.out) | exact HB.out)) hb)
      clear BK103 HB
      have HO107 := n0_
      have BK103 := n1_
      have HB := n2_
      clear n0_ n1_ n2_ hb ho11
      obtain ⟨Ao12, co12, eo12⟩ := Kd.R_slice HO107.out
      (first | subst eo12 | (injection eo12 with f1_ f2_ f3_; have f4_ := f1_.symm; have f5_ := f3_.symm; clear f1_ f2_ f3_; subst f4_; subst f5_))
      refine hK.out _ _ trivial (fun hHeld => ?_)
      clear hK K
      refine norm_ (a' := ?_) ?_ ?_
      rotate_left
      ·show Act.put _ (some 13) _ = _
       simp only [Act.put, ssB, ssZ, ssS, i64_w, i32_w]
       rfl
      refine two_ (i := 4) (j := 6) (Ni := some 15) (Nj := some 17) #[true, true, true, true, true, true, false, false, false, false] #[true, true, true, true, false, true, true, false, false, false] rfl rfl rfl rfl (two_of HT_.out (by kernel_rfl)) (by decide) (by decide) (fun K hK => ?_) (fun K hK => ?_)
      ·skip
       refine goes_ Try.func74 (by kernel_rfl) rfl #[.slice Ao12 y105.length co12, .int .i64 a1] (by rfl) rfl rfl (by (try simp only [List.map_toArray, List.map_cons, List.map_nil]); first | done | rfl | (simp only [List.length_drop, List.length_take]; rfl)) ?_
       with_reducible refine (slices_Repeat_int_int.calls _ _ y105 a1 t108 _ ?side1 ?side2 A5.out).mono ?_
       (case side1 => repeat (first | exact (Kd.R_reads' HO107.out).2.2 | (with_reducible refine ccA ?_ _) | (with_reducible refine ccN ?_ _) | (with_reducible refine ccD ?_)))
       (case side2 => exact (Kd.R_reads' HO107.out).2.1)
       rintro e w13 ⟨v109, rfl, ho0, hb⟩
       refine ⟨_, rfl, ?_⟩
       have n0_ := aaM (Kd.R_elder' (by (with_reducible repeat (first | apply rrA | apply rrN | apply rrD)); exact HO107.out) (Kd.R_base ho0) hb)
       have n1_ := aaM (Kd.R_lower (Kd.R_new' ho0 (Kd.R_lt (by (with_reducible repeat (first | apply rrA | apply rrN | apply rrD)); exact HO107.out))) (lZ (by repeat (first | (with_reducible first | exact HB.out | apply lA | apply lN | apply lD | refine lS ?_ GE103.out) | exact HB.out))))
       have n2_ := aaM (bB (g := gb103) (o := .cells #[.int .i64 0, .int .i64 0, .int .i64 0, .slice none 0 0, .slice none 0 0, .bool false] 42 (0, 0)) (by (with_reducible repeat (first | refine bN ?_ _ | refine bD ?_ | refine bA ?_ _)); exact BK103.out) hb)
       have n3_ := aaM (lP (by repeat (first | (with_reducible first | exact HB.out | apply lA | apply lN | apply lD | refine lS ?_ GE103.out) | exact HB.out)) hb)
       clear HO107 BK103 HB
       have HO107 := n0_
       have HO110 := n1_
       have BK103 := n2_
       have HB := n3_
       clear n0_ n1_ n2_ n3_
       (try clear hb)
       (try clear hb2)
       (try clear hk)
       (try clear hi)
       (try clear ho0)
       refine hK.out _ _ trivial (fun hHeld => ?_)
       clear hK K
       refine norm_ (a' := ?_) ?_ ?_
       rotate_left
       ·show Act.put _ (some 15) _ = _
        simp only [Act.put, ssB, ssZ, ssS, i64_w, i32_w]
        rfl
       refine one_ (i := 6) (N := some 17) #[true, true, true, true, true, true, true, false, false, false] rfl rfl (one_of HT_.out (by kernel_rfl)) (by decide) (fun K hK => ?_)
       refine Kd.R_make_step Kd.bool _ 4 (by rfl) (N := 17) rfl 40 _ _ rfl a0 rfl rfl Try.underlying40 (.bool false) 1 info4 rfl (by decide) (by omega) false (ok := fun _ => True) (okp := fun _ => True) rfl (fun _ hk => hk) trivial (of_decide_eq_true (by first | (with_reducible assumption) | assumption)) (Nat.le_trans (Nat.mul_le_mul_right _ (of_decide_eq_true (by first | (with_reducible assumption) | assumption) : a0.toNat ≤ 281474976710656)) (by omega)) (Below.refl _ _) (Nat.le_refl _) ?_
       intro v112 w14 ho15 hb hg_ hnew_
       clear hg_ hnew_
       (first | rw [← Ny111.out] at ho15 | (simp only [Int.reduceToNat] at ho15; rw [← Ny111.out] at ho15))
       have n0_ := aaM (rrB (by (with_reducible repeat (first | apply rrA | apply rrN | apply rrD)); exact HO107.out) hb)
       have n1_ := aaM (rrB (by (with_reducible repeat (first | apply rrA | apply rrN | apply rrD)); exact HO110.out) hb)
       have n2_ := aaM (Kd.R_lower ho15 (lZ (by repeat (first | (with_reducible first | exact HB.out | apply lA | apply lN | apply lD | refine lS ?_ GE103.out) | exact HB.out))))
       have n3_ := aaM (bB (g := gb103) (o := .cells #[.int .i64 0, .int .i64 0, .int .i64 0, .slice none 0 0, .slice none 0 0, .bool false] 42 (0, 0)) (by (with_reducible repeat (first | refine bN ?_ _ | refine bD ?_ | refine bA ?_ _)); exact BK103.out) hb)
       have n4_ := aaM (lP (by repeat (first | (with_reducible first | exact HB.out | apply lA | apply lN | apply lD | refine lS ?_ GE103.out) | exact HB.out)) hb)
       clear HO107 HO110 BK103 HB
       have HO107 := n0_
       have HO110 := n1_
       have HO113 := n2_
       have BK103 := n3_
       have HB := n4_
       clear n0_ n1_ n2_ n3_ n4_ hb ho15
       obtain ⟨Ao16, co16, eo16⟩ := Kd.R_slice HO113.out
       (first | subst eo16 | (injection eo16 with f1_ f2_ f3_; have f4_ := f1_.symm; have f5_ := f3_.symm; clear f1_ f2_ f3_; subst f4_; subst f5_))
       obtain ⟨Ao17, co17, eo17⟩ := Kd.R_slice HO110.out
       (first | subst eo17 | (injection eo17 with f1_ f2_ f3_; have f4_ := f1_.symm; have f5_ := f3_.symm; clear f1_ f2_ f3_; subst f4_; subst f5_))
       refine hK.out _ _ trivial (fun hHeld => ?_)
       clear hK K
       refine norm_ (a' := ?_) ?_ ?_
       rotate_left
       ·show Act.put _ (some 17) _ = _
        simp only [Act.put, ssB, ssZ, ssS, i64_w, i32_w]
        rfl
       exact norm_ (by simp only [putAll, Act.put, ssB, ssZ, ssS]) (hCont (.slice Ao12 y105.length co12, .slice Ao17 t108.length co17, .slice Ao16 y111.length co16) _ ⟨(by (with_reducible repeat (first | apply rrA | apply rrN | apply rrD)); exact Kd.R_mono HO107.out (fun _ hk => hk.2)), (by (with_reducible repeat (first | apply rrA | apply rrN | apply rrD)); exact Kd.R_mono HO110.out (fun _ hk => hk.2)), (by (with_reducible repeat (first | apply rrA | apply rrN | apply rrD)); exact HO113.out), (by (with_reducible repeat (first | refine bN ?_ _ | refine bD ?_ | refine bA ?_ _)); exact BK103.out), (by repeat (first | (with_reducible first | exact HB.out | apply lA | apply lN | apply lD | refine lS ?_ GE103.out) | exact HB.out))⟩)
      ·skip
       refine Kd.R_make_step Kd.bool _ 4 (by rfl) (N := 17) rfl 40 _ _ rfl a0 rfl rfl Try.underlying40 (.bool false) 1 info4 rfl (by decide) (by omega) false (ok := fun _ => True) (okp := fun _ => True) rfl (fun _ hk => hk) trivial (of_decide_eq_true (by first | (with_reducible assumption) | assumption)) (Nat.le_trans (Nat.mul_le_mul_right _ (of_decide_eq_true (by first | (with_reducible assumption) | assumption) : a0.toNat ≤ 281474976710656)) (by omega)) (Below.refl _ _) (Nat.le_refl _) ?_
       intro v112 w12 ho13 hb hg_ hnew_
       clear hg_ hnew_
       (first | rw [← Ny111.out] at ho13 | (simp only [Int.reduceToNat] at ho13; rw [← Ny111.out] at ho13))
       have n0_ := aaM (rrB (by (with_reducible repeat (first | apply rrA | apply rrN | apply rrD)); exact HO107.out) hb)
       have n1_ := aaM (Kd.R_lower ho13 (lZ (by repeat (first | (with_reducible first | exact HB.out | apply lA | apply lN | apply lD | refine lS ?_ GE103.out) | exact HB.out))))
       have n2_ := aaM (bB (g := gb103) (o := .cells #[.int .i64 0, .int .i64 0, .int .i64 0, .slice none 0 0, .slice none 0 0, .bool false] 42 (0, 0)) (by (with_reducible repeat (first | refine bN ?_ _ | refine bD ?_ | refine bA ?_ _)); exact BK103.out) hb)
       have n3_ := aaM (lP (by repeat (first | (with_reducible first | exact HB.out | apply lA | apply lN | apply lD | refine lS ?_ GE103.out) | exact HB.out)) hb)
       clear HO107 BK103 HB
       have HO107 := n0_
       have HO113 := n1_
       have BK103 := n2_
       have HB := n3_
       clear n0_ n1_ n2_ n3_ hb ho13
       obtain ⟨Ao14, co14, eo14⟩ := Kd.R_slice HO107.out
       (first | subst eo14 | (injection eo14 with f1_ f2_ f3_; have f4_ := f1_.symm; have f5_ := f3_.symm; clear f1_ f2_ f3_; subst f4_; subst f5_))
       refine hK.out _ _ trivial (fun hHeld => ?_)
       clear hK K
       refine norm_ (a' := ?_) ?_ ?_
       rotate_left
       ·show Act.put _ (some 17) _ = _
        simp only [Act.put, ssB, ssZ, ssS, i64_w, i32_w]
        rfl
       refine one_ (i := 4) (N := some 15) #[true, true, true, true, true, true, true, false, false, false] rfl rfl (one_of HT_.out (by kernel_rfl)) (by decide) (fun K hK => ?_)
       refine goes_ Try.func74 (by kernel_rfl) rfl #[.slice Ao14 y105.length co14, .int .i64 a1] (by rfl) rfl rfl (by (try simp only [List.map_toArray, List.map_cons, List.map_nil]); first | done | rfl | (simp only [List.length_drop, List.length_take]; rfl)) ?_
       with_reducible refine (slices_Repeat_int_int.calls _ _ y105 a1 t108 _ ?side1 ?side2 A5.out).mono ?_
       (case side1 => repeat (first | exact (Kd.R_reads' HO107.out).2.2 | (with_reducible refine ccA ?_ _) | (with_reducible refine ccN ?_ _) | (with_reducible refine ccD ?_)))
       (case side2 => exact (Kd.R_reads' HO107.out).2.1)
       rintro e w15 ⟨v109, rfl, ho0, hb⟩
       refine ⟨_, rfl, ?_⟩
       have n0_ := aaM (Kd.R_elder' (by (with_reducible repeat (first | apply rrA | apply rrN | apply rrD)); exact HO107.out) (Kd.R_base ho0) hb)
       have n1_ := aaM (rrB (by (with_reducible repeat (first | apply rrA | apply rrN | apply rrD)); exact HO113.out) hb)
       have n2_ := aaM (Kd.R_lower (Kd.R_new' ho0 (Kd.R_lt (by (with_reducible repeat (first | apply rrA | apply rrN | apply rrD)); exact HO107.out))) (lZ (by repeat (first | (with_reducible first | exact HB.out | apply lA | apply lN | apply lD | refine lS ?_ GE103.out) | exact HB.out))))
       have n3_ := aaM (bB (g := gb103) (o := .cells #[.int .i64 0, .int .i64 0, .int .i64 0, .slice none 0 0, .slice none 0 0, .bool false] 42 (0, 0)) (by (with_reducible repeat (first | refine bN ?_ _ | refine bD ?_ | refine bA ?_ _)); exact BK103.out) hb)
       have n4_ := aaM (lP (by repeat (first | (with_reducible first | exact HB.out | apply lA | apply lN | apply lD | refine lS ?_ GE103.out) | exact HB.out)) hb)
       clear HO107 HO113 BK103 HB
       have HO107 := n0_
       have HO113 := n1_
       have HO110 := n2_
       have BK103 := n3_
       have HB := n4_
       clear n0_ n1_ n2_ n3_ n4_
       (try clear hb)
       (try clear hb2)
       (try clear hk)
       (try clear hi)
       (try clear ho0)
       obtain ⟨Ao16, co16, eo16⟩ := Kd.R_slice HO113.out
       (first | subst eo16 | (injection eo16 with f1_ f2_ f3_; have f4_ := f1_.symm; have f5_ := f3_.symm; clear f1_ f2_ f3_; subst f4_; subst f5_))
       obtain ⟨Ao17, co17, eo17⟩ := Kd.R_slice HO110.out
       (first | subst eo17 | (injection eo17 with f1_ f2_ f3_; have f4_ := f1_.symm; have f5_ := f3_.symm; clear f1_ f2_ f3_; subst f4_; subst f5_))
       refine hK.out _ _ trivial (fun hHeld => ?_)
       clear hK K
       refine norm_ (a' := ?_) ?_ ?_
       rotate_left
       ·show Act.put _ (some 15) _ = _
        simp only [Act.put, ssB, ssZ, ssS, i64_w, i32_w]
        rfl
       exact norm_ (by simp only [putAll, Act.put, ssB, ssZ, ssS]) (hCont (.slice Ao14 y105.length co14, .slice Ao17 t108.length co17, .slice Ao16 y111.length co16) _ ⟨(by (with_reducible repeat (first | apply rrA | apply rrN | apply rrD)); exact Kd.R_mono HO107.out (fun _ hk => hk.2)), (by (with_reducible repeat (first | apply rrA | apply rrN | apply rrD)); exact Kd.R_mono HO110.out (fun _ hk => hk.2)), (by (with_reducible repeat (first | apply rrA | apply rrN | apply rrD)); exact HO113.out), (by (with_reducible repeat (first | refine bN ?_ _ | refine bD ?_ | refine bA ?_ _)); exact BK103.out), (by repeat (first | (with_reducible first | exact HB.out | apply lA | apply lN | apply lD | refine lS ?_ GE103.out) | exact HB.out))⟩)
     ·skip
      refine Kd.R_make_step Kd.bool _ 4 (by rfl) (N := 17) rfl 40 _ _ rfl a0 rfl rfl Try.underlying40 (.bool false) 1 info4 rfl (by decide) (by omega) false (ok := fun _ => True) (okp := fun _ => True) rfl (fun _ hk => hk) trivial (of_decide_eq_true (by first | (with_reducible assumption) | assumption)) (Nat.le_trans (Nat.mul_le_mul_right _ (of_decide_eq_true (by first | (with_reducible assumption) | assumption) : a0.toNat ≤ 281474976710656)) (by omega)) (Below.refl _ _) (Nat.le_refl _) ?_
      intro v112 w10 ho11 hb hg_ hnew_
      clear hg_ hnew_
      (first | rw [← Ny111.out] at ho11 | (simp only [Int.reduceToNat] at ho11; rw [← Ny111.out] at ho11))
      have n0_ := aaM (Kd.R_lower ho11 (lZ (by repeat (first | (with_reducible first | exact HB.out | apply lA | apply lN | apply lD | refine lS ?_ GE103.out) | exact HB.out))))
      have n1_ := aaM (bB (g := gb103) (o := .cells #[.int .i64 0, .int .i64 0, .int .i64 0, .slice none 0 0, .slice none 0 0, .bool false] 42 (0, 0)) (by (with_reducible repeat (first | refine bN ?_ _ | refine bD ?_ | refine bA ?_ _)); exact BK103.out) hb)
      have n2_ := aaM (lP (by repeat (first | (with_reducible first | exact HB.out | apply lA | apply lN | apply lD | refine lS ?_ GE103.out) | exact HB.out)) hb)
      clear BK103 HB
      have HO113 := n0_
      have BK103 := n1_
      have HB := n2_
      clear n0_ n1_ n2_ hb ho11
      refine hK.out _ _ trivial (fun hHeld => ?_)
      clear hK K
      refine norm_ (a' := ?_) ?_ ?_
      rotate_left
      ·show Act.put _ (some 17) _ = _
       simp only [Act.put, ssB, ssZ, ssS, i64_w, i32_w]
       rfl
      refine one_ (i := 2) (N := some 13) #[true, true, true, true, false, true, true, false, false, false] rfl rfl (one_of HT_.out (by kernel_rfl)) (by decide) (fun K hK => ?_)
      refine Kd.R_lit_step (Kd.int .i64) _ 3 ?hg (N := 13) ?hd (xs := ([(-1)] : List Int)) (inner := [.int .i64 (-1)]) (ok := fun _ => True) (okp := fun _ => True) ?hr ?hp (fun _ hk => hk) trivial (Below.refl _ _) (Nat.le_refl _) (by simp) ?_; (case hd => rfl); (case hg => rfl); (case hr => first | (go_simp; done) | (go_simp; rfl)); (case hp => exact (Reps.one (show Kd.M (Kd.int .i64) _ _ _ (-1) [.int .i64 (-1)] from rfl) (Reps.none _ _)))
      intro v106 w12 ho13 hb hg_ hnew_
      clear hg_ hnew_
      (first | rw [← Ny105.out] at ho13 | (simp only [Int.reduceToNat] at ho13; rw [← Ny105.out] at ho13))
      have n0_ := aaM (rrB (by (with_reducible repeat (first | apply rrA | apply rrN | apply rrD)); exact HO113.out) hb)
      have n1_ := aaM (Kd.R_lower ho13 (lZ (by repeat (first | (with_reducible first | exact HB.out | apply lA | apply lN | apply lD | refine lS ?_ GE103.out) | exact HB.out))))
      have n2_ := aaM (bB (g := gb103) (o := .cells #[.int .i64 0, .int .i64 0, .int .i64 0, .slice none 0 0, .slice none 0 0, .bool false] 42 (0, 0)) (by (with_reducible repeat (first | refine bN ?_ _ | refine bD ?_ | refine bA ?_ _)); exact BK103.out) hb)
      have n3_ := aaM (lP (by repeat (first | (with_reducible first | exact HB.out | apply lA | apply lN | apply lD | refine lS ?_ GE103.out) | exact HB.out)) hb)
      clear HO113 BK103 HB
      have HO113 := n0_
      have HO107 := n1_
      have BK103 := n2_
      have HB := n3_
      clear n0_ n1_ n2_ n3_ hb ho13
      obtain ⟨Ao14, co14, eo14⟩ := Kd.R_slice HO107.out
      (first | subst eo14 | (injection eo14 with f1_ f2_ f3_; have f4_ := f1_.symm; have f5_ := f3_.symm; clear f1_ f2_ f3_; subst f4_; subst f5_))
      refine hK.out _ _ trivial (fun hHeld => ?_)
      clear hK K
      refine norm_ (a' := ?_) ?_ ?_
      rotate_left
      ·show Act.put _ (some 13) _ = _
       simp only [Act.put, ssB, ssZ, ssS, i64_w, i32_w]
       rfl
      refine one_ (i := 4) (N := some 15) #[true, true, true, true, true, true, true, false, false, false] rfl rfl (one_of HT_.out (by kernel_rfl)) (by decide) (fun K hK => ?_)
      refine goes_ Try.func74 (by kernel_rfl) rfl #[.slice Ao14 y105.length co14, .int .i64 a1] (by rfl) rfl rfl (by (try simp only [List.map_toArray, List.map_cons, List.map_nil]); first | done | rfl | (simp only [List.length_drop, List.length_take]; rfl)) ?_
      with_reducible refine (slices_Repeat_int_int.calls _ _ y105 a1 t108 _ ?side1 ?side2 A5.out).mono ?_
      (case side1 => repeat (first | exact (Kd.R_reads' HO107.out).2.2 | (with_reducible refine ccA ?_ _) | (with_reducible refine ccN ?_ _) | (with_reducible refine ccD ?_)))
      (case side2 => exact (Kd.R_reads' HO107.out).2.1)
      rintro e w15 ⟨v109, rfl, ho0, hb⟩
      refine ⟨_, rfl, ?_⟩
      have n0_ := aaM (rrB (by (with_reducible repeat (first | apply rrA | apply rrN | apply rrD)); exact HO113.out) hb)
      have n1_ := aaM (Kd.R_elder' (by (with_reducible repeat (first | apply rrA | apply rrN | apply rrD)); exact HO107.out) (Kd.R_base ho0) hb)
      have n2_ := aaM (Kd.R_lower (Kd.R_new' ho0 (Kd.R_lt (by (with_reducible repeat (first | apply rrA | apply rrN | apply rrD)); exact HO107.out))) (lZ (by repeat (first | (with_reducible first | exact HB.out | apply lA | apply lN | apply lD | refine lS ?_ GE103.out) | exact HB.out))))
      have n3_ := aaM (bB (g := gb103) (o := .cells #[.int .i64 0, .int .i64 0, .int .i64 0, .slice none 0 0, .slice none 0 0, .bool false] 42 (0, 0)) (by (with_reducible repeat (first | refine bN ?_ _ | refine bD ?_ | refine bA ?_ _)); exact BK103.out) hb)
      have n4_ := aaM (lP (by repeat (first | (with_reducible first | exact HB.out | apply lA | apply lN | apply lD | refine lS ?_ GE103.out) | exact HB.out)) hb)
      clear HO113 HO107 BK103 HB
      have HO113 := n0_
      have HO107 := n1_
      have HO110 := n2_
      have BK103 := n3_
      have HB := n4_
      clear n0_ n1_ n2_ n3_ n4_
      (try clear hb)
      (try clear hb2)
      (try clear hk)
      (try clear hi)
      (try clear ho0)
      obtain ⟨Ao16, co16, eo16⟩ := Kd.R_slice HO113.out
      (first | subst eo16 | (injection eo16 with f1_ f2_ f3_; have f4_ := f1_.symm; have f5_ := f3_.symm; clear f1_ f2_ f3_; subst f4_; subst f5_))
      obtain ⟨Ao17, co17, eo17⟩ := Kd.R_slice HO110.out
      (first | subst eo17 | (injection eo17 with f1_ f2_ f3_; have f4_ := f1_.symm; have f5_ := f3_.symm; clear f1_ f2_ f3_; subst f4_; subst f5_))
      refine hK.out _ _ trivial (fun hHeld => ?_)
      clear hK K
      refine norm_ (a' := ?_) ?_ ?_
      rotate_left
      ·show Act.put _ (some 15) _ = _
       simp only [Act.put, ssB, ssZ, ssS, i64_w, i32_w]
       rfl
      exact norm_ (by simp only [putAll, Act.put, ssB, ssZ, ssS]) (hCont (.slice Ao14 y105.length co14, .slice Ao17 t108.length co17, .slice Ao16 y111.length co16) _ ⟨(by (with_reducible repeat (first | apply rrA | apply rrN | apply rrD)); exact Kd.R_mono HO107.out (fun _ hk => hk.2)), (by (with_reducible repeat (first | apply rrA | apply rrN | apply rrD)); exact Kd.R_mono HO110.out (fun _ hk => hk.2)), (by (with_reducible repeat (first | apply rrA | apply rrN | apply rrD)); exact HO113.out), (by (with_reducible repeat (first | refine bN ?_ _ | refine bD ?_ | refine bA ?_ _)); exact BK103.out), (by repeat (first | (with_reducible first | exact HB.out | apply lA | apply lN | apply lD | refine lS ?_ GE103.out) | exact HB.out))⟩)
    rintro ⟨v106, v109, v112⟩ w18 ⟨h0_, h1_, h2_, h3_, h4_⟩
    have n0_ : Aside0 (Kd.R (Kd.int .i64) 3 w18 w.heap.size (fun k_ => some k_ ≠ (v109 : Value).ownBlock) v106 y105) := ⟨h0_⟩
    have n1_ : Aside0 (Kd.R (Kd.int .i64) 3 w18 w.heap.size (fun k_ => some k_ ≠ (v106 : Value).ownBlock) v109 t108) := ⟨h1_⟩
    have n2_ : Aside0 (Kd.R Kd.bool 4 w18 w.heap.size (fun _ => True) v112 y111) := ⟨h2_⟩
    have n3_ : Aside0 (w18.heap[gb103]? = some (.cells #[.int .i64 0, .int .i64 0, .int .i64 0, .slice none 0 0, .slice none 0 0, .bool false] 42 (0, 0))) := ⟨h3_⟩
    have n4_ : Aside0 (Below w.heap.size w w18) := ⟨h4_⟩
    clear BK103 HB h0_ h1_ h2_ h3_ h4_
    have HO107 := n0_
    have HO110 := n1_
    have HO113 := n2_
    have BK103 := n3_
    have HB := n4_
    clear n0_ n1_ n2_ n3_ n4_
    have hHeld := trivial
    obtain ⟨Ao19, co19, eo19⟩ := Kd.R_slice HO113.out
    (first | subst eo19 | (injection eo19 with f1_ f2_ f3_; have f4_ := f1_.symm; have f5_ := f3_.symm; clear f1_ f2_ f3_; subst f4_; subst f5_))
    obtain ⟨Ao20, co20, eo20⟩ := Kd.R_slice HO110.out
    (first | subst eo20 | (injection eo20 with f1_ f2_ f3_; have f4_ := f1_.symm; have f5_ := f3_.symm; clear f1_ f2_ f3_; subst f4_; subst f5_))
    refine norm_ (a' := ?_) ?_ ?_
    rotate_left
    ·simp only [putAll, Act.put, ssB, ssZ, ssS]
     rfl
    refine pure_ (i := 7) (N := some 18) (v := ?_) (a' := ?_) #[true, true, true, true, true, true, true, true, false, false] rfl rfl (any_of HT_.out (by kernel_rfl)) (fun _ _ _ h => h) (Or.inl ⟨by rfl, ?_⟩) ?_ ?_
    rotate_left
    ·intro w'
     go_simp
     with_reducible rfl
    rotate_left
    ·simp only [Act.put, ssB, ssZ, ssS, i64_w, i32_w]
     rfl
    refine one_ (i := 8) (N := none) #[true, true, true, true, true, true, true, true, true, false] rfl rfl (one_of HT_.out (by kernel_rfl)) (by decide) (fun K hK => ?_)
    have hs21 : w18.cell? ⟨gb103, 0, none⟩ = some (.int .i64 0) := (bC BK103.out 0).trans rfl
    have hfs21 := bF BK103.out 0
    have hs22 : w18.cell? ⟨gb103, 1, none⟩ = some (.int .i64 0) := (bC BK103.out 1).trans rfl
    have hfs22 := bF BK103.out 1
    have hs23 : w18.cell? ⟨gb103, 2, none⟩ = some (.int .i64 0) := (bC BK103.out 2).trans rfl
    have hfs23 := bF BK103.out 2
    have hs24 : w18.cell? ⟨gb103, 3, none⟩ = some (.slice none 0 0) := (bC BK103.out 3).trans rfl
    have hfs24 := bF BK103.out 3
    have hs25 : w18.cell? ⟨gb103, 4, none⟩ = some (.slice none 0 0) := (bC BK103.out 4).trans rfl
    have hfs25 := bF BK103.out 4
    have hs26 : w18.cell? ⟨gb103, 5, none⟩ = some (.bool false) := (bC BK103.out 5).trans rfl
    have hfs26 := bF BK103.out 5
    refine skip_ (w1 := ?_) (by rfl) rfl ?_ ?_
    rotate_left
    ·go_simp
     rfl
    refine hK.out _ _ trivial (fun hHeld => ?_)
    clear hK K
    refine pure_ (i := 9) (N := some 5) (v := ?_) (a' := ?_) #[true, true, true, true, true, true, true, true, true, true] rfl rfl (any_of HT_.out (by kernel_rfl)) (fun _ _ _ h => h) (Or.inl ⟨by rfl, ?_⟩) ?_ ?_
    rotate_left
    ·intro w'
     go_simp
     with_reducible rfl
    rotate_left
    ·simp only [Act.put, ssB, ssZ, ssS, i64_w, i32_w]
     rfl
    refine done_ (done_of HT_.out (by kernel_rfl)) ?_
    try go_wp2
    refine bodyPost_ret (results_ct rfl _ _ gb103 42 #[.int .i64 a0, .int .i64 a1, .int .i64 0, .slice Ao20 t108.length co20, .slice Ao19 y111.length co19, .bool false] (0, 0) _ rfl (by (with_reducible repeat (first | refine bN ?_ _ | refine bD ?_ | refine bA ?_ _)); refine blk_put (cs := #[.int .i64 a0, .int .i64 a1, .int .i64 0, .slice Ao20 t108.length co20, .slice Ao19 y111.length co19, .bool false]) ?_ 5 _ rfl; (with_reducible repeat (first | refine bN ?_ _ | refine bD ?_ | refine bA ?_ _)); refine blk_put (cs := #[.int .i64 a0, .int .i64 a1, .int .i64 0, .slice Ao20 t108.length co20, .slice none 0 0, .bool false]) ?_ 4 _ rfl; (with_reducible repeat (first | refine bN ?_ _ | refine bD ?_ | refine bA ?_ _)); refine blk_put (cs := #[.int .i64 a0, .int .i64 a1, .int .i64 0, .slice none 0 0, .slice none 0 0, .bool false]) ?_ 3 _ rfl; (with_reducible repeat (first | refine bN ?_ _ | refine bD ?_ | refine bA ?_ _)); refine blk_put (cs := #[.int .i64 a0, .int .i64 a1, .int .i64 0, .slice none 0 0, .slice none 0 0, .bool false]) ?_ 2 _ rfl; (with_reducible repeat (first | refine bN ?_ _ | refine bD ?_ | refine bA ?_ _)); refine blk_put (cs := #[.int .i64 a0, .int .i64 0, .int .i64 0, .slice none 0 0, .slice none 0 0, .bool false]) ?_ 1 _ rfl; (with_reducible repeat (first | refine bN ?_ _ | refine bD ?_ | refine bA ?_ _)); refine blk_put (cs := #[.int .i64 0, .int .i64 0, .int .i64 0, .slice none 0 0, .slice none 0 0, .bool false]) ?_ 0 _ rfl; (with_reducible repeat (first | refine bN ?_ _ | refine bD ?_ | refine bA ?_ _)); exact BK103.out) Try.underlying42 rfl (by kernel_rfl)) rfl ?_
    exact ⟨_, _, by first | rfl | (simp [errW_none, errW_some] <;> rfl) | (simp [*, errW_none, errW_some] <;> rfl), by (with_reducible repeat (first | apply rrA | apply rrN | apply rrD)); exact Kd.R_mono (rrF (p := ⟨gb103, 5, none⟩) (rrF (p := ⟨gb103, 4, none⟩) (rrF (p := ⟨gb103, 3, none⟩) (rrF (p := ⟨gb103, 2, none⟩) (rrF (p := ⟨gb103, 1, none⟩) (rrF (p := ⟨gb103, 0, none⟩) (Kd.R_types HO110.out BK103.out (by decide)) (fun _ hk => hk.2) (.int .i64 a0)) (fun _ hk => hk.2) (.int .i64 a1)) (fun _ hk => hk.2) (.int .i64 0)) (fun _ hk => hk.2) (.slice Ao20 t108.length co20)) (fun _ hk => hk.2) (.slice Ao19 y111.length co19)) (fun _ hk => hk.2) (.bool false)) (fun _ hk => trivial), by (with_reducible repeat (first | apply rrA | apply rrN | apply rrD)); exact Kd.R_mono (rrF (p := ⟨gb103, 5, none⟩) (rrF (p := ⟨gb103, 4, none⟩) (rrF (p := ⟨gb103, 3, none⟩) (rrF (p := ⟨gb103, 2, none⟩) (rrF (p := ⟨gb103, 1, none⟩) (rrF (p := ⟨gb103, 0, none⟩) (Kd.R_types HO113.out BK103.out (by decide)) (fun _ hk => hk.2) (.int .i64 a0)) (fun _ hk => hk.2) (.int .i64 a1)) (fun _ hk => hk.2) (.int .i64 0)) (fun _ hk => hk.2) (.slice Ao20 t108.length co20)) (fun _ hk => hk.2) (.slice Ao19 y111.length co19)) (fun _ hk => hk.2) (.bool false)) (fun _ hk => trivial), by repeat (first | (with_reducible first | exact HB.out | apply lA | apply lN | apply lD | refine lS ?_ GE103.out) | exact HB.out)⟩
   ·rw [if_neg c7] at H
    exact absurd H (by simp)
  ·rw [if_neg c6] at H
   exact absurd H (by simp)
 ·replace c4 := Bool.eq_false_iff.mpr c4
  subst c4
  have H1 : (some (0, 0, 0, ([] : List Int), ([] : List Bool), false, 1)) = some (r1, r2, r3, r4, r5, r6, r7) := by rw [if_neg (show ¬ (false = true) by decide)] at H; exact H
  clear H
  have H := H1
  clear H1
  simp only [Option.some.injEq, Prod.mk.injEq] at H
  obtain ⟨rfl, rfl, rfl, rfl, rfl, rfl, rfl⟩ := H
  go_enter Try.func52, Try.ntmps52
  go_wp2_with (first | ((with_reducible refine gate_dst (N := 4) rfl ?_); refine box_event ?hg (N := 4) ?hd (cs := #[.int .i64 0, .int .i64 0, .int .i64 0, .slice none 0 0, .slice none 0 0, .bool false]) (t := 42) ?hr ?_; (case hd => rfl); (case hg => rfl); (case hr => first | (go_simp; done) | (go_simp; rfl)); intro gb103 hg w27 hbox hb; have n0_ := aaM (lP (by repeat (first | (with_reducible first | exact HB.out | apply lA | apply lN | apply lD) | exact HB.out)) hb); have n1_ := aaM (hbox); have n2_ := aaM ((by rw [hg]; exact (lZ (by repeat (first | (with_reducible first | exact HB.out | apply lA | apply lN | apply lD) | exact HB.out))) : w.heap.size ≤ gb103)); have n3_ := aaM ((by rw [hg]; exact (lZ (by repeat (first | (with_reducible first | exact HB.out | apply lA | apply lN | apply lD) | exact HB.out))) : w.heap.size ≤ gb103)); clear HB; have HB := n0_; have BK103 := n1_; have GW103 := n2_; have GE103 := n3_; clear n0_ n1_ n2_ n3_; clear hb hbox hg) | ((with_reducible refine gate_callee (f := 65) rfl ?_); refine goesL_ (some 8) rfl rfl Try.func65 (by kernel_rfl) rfl #[.int .i64 a0, .int .i64 a1] rfl (by (try simp only [List.map_toArray, List.map_cons, List.map_nil]); first | done | rfl | (simp only [List.length_drop, List.length_take]; rfl)) ?_; (with_reducible refine (sched_fits.calls a0 a1 false _ A3.out).mono ?_); rintro e w' ⟨rfl, ⟨nd, rfl⟩⟩; refine ⟨_, rfl, ?_⟩; (try (rw [drewN_self w27]; generalize hq_ : World.drewN w27 _ = w27; have n0_ : Aside0 (w27.heap[gb103]? = some (.cells #[.int .i64 0, .int .i64 0, .int .i64 0, .slice none 0 0, .slice none 0 0, .bool false] 42 (0, 0))) := ⟨by rw [← hq_]; exact (by (with_reducible repeat (first | refine bN ?_ _ | refine bD ?_ | refine bA ?_ _)); exact BK103.out)⟩; have n1_ : Aside0 (Below w.heap.size w w27) := ⟨by rw [← hq_]; exact (by repeat (first | (with_reducible first | exact HB.out | apply lA | apply lN | apply lD | refine lS ?_ GE103.out) | exact HB.out))⟩; clear BK103 HB hq_; have BK103 := n0_; have HB := n1_; clear n0_ n1_; have hcy103_0 : w27.cell? ⟨gb103, 0, none⟩ = some (.int .i64 0) := (bC BK103.out 0).trans rfl; have hfy103_0 := bF BK103.out 0; have hcy103_1 : w27.cell? ⟨gb103, 1, none⟩ = some (.int .i64 0) := (bC BK103.out 1).trans rfl; have hfy103_1 := bF BK103.out 1; have hcy103_2 : w27.cell? ⟨gb103, 2, none⟩ = some (.int .i64 0) := (bC BK103.out 2).trans rfl; have hfy103_2 := bF BK103.out 2; have hcy103_3 : w27.cell? ⟨gb103, 3, none⟩ = some (.slice none 0 0) := (bC BK103.out 3).trans rfl; have hfy103_3 := bF BK103.out 3; have hcy103_4 : w27.cell? ⟨gb103, 4, none⟩ = some (.slice none 0 0) := (bC BK103.out 4).trans rfl; have hfy103_4 := bF BK103.out 4; have hcy103_5 : w27.cell? ⟨gb103, 5, none⟩ = some (.bool false) := (bC BK103.out 5).trans rfl; have hfy103_5 := bF BK103.out 5)); have hcz28_0 : w27.cell? ⟨gb103, 0, none⟩ = some (.int .i64 0) := (bC BK103.out 0).trans rfl; have hcz28_1 : w27.cell? ⟨gb103, 1, none⟩ = some (.int .i64 0) := (bC BK103.out 1).trans rfl; have hcz28_2 : w27.cell? ⟨gb103, 2, none⟩ = some (.int .i64 0) := (bC BK103.out 2).trans rfl; have hcz28_3 : w27.cell? ⟨gb103, 3, none⟩ = some (.slice none 0 0) := (bC BK103.out 3).trans rfl; have hcz28_4 : w27.cell? ⟨gb103, 4, none⟩ = some (.slice none 0 0) := (bC BK103.out 4).trans rfl; have hcz28_5 : w27.cell? ⟨gb103, 5, none⟩ = some (.bool false) := (bC BK103.out 5).trans rfl; have hfz28_0 := bF BK103.out 0; have hfz28_1 := bF BK103.out 1; have hfz28_2 := bF BK103.out 2; have hfz28_3 := bF BK103.out 3; have hfz28_4 := bF BK103.out 4; have hfz28_5 := bF BK103.out 5))
  refine bodyPost_ret (results_ct rfl _ _ gb103 42 #[.int .i64 0, .int .i64 0, .int .i64 0, .slice none 0 0, .slice none 0 0, .bool false] (0, 0) _ rfl (by (with_reducible repeat (first | refine bN ?_ _ | refine bD ?_ | refine bA ?_ _)); refine blk_put (cs := #[.int .i64 0, .int .i64 0, .int .i64 0, .slice none 0 0, .slice none 0 0, .bool false]) ?_ 5 _ rfl; (with_reducible repeat (first | refine bN ?_ _ | refine bD ?_ | refine bA ?_ _)); refine blk_put (cs := #[.int .i64 0, .int .i64 0, .int .i64 0, .slice none 0 0, .slice none 0 0, .bool false]) ?_ 4 _ rfl; (with_reducible repeat (first | refine bN ?_ _ | refine bD ?_ | refine bA ?_ _)); refine blk_put (cs := #[.int .i64 0, .int .i64 0, .int .i64 0, .slice none 0 0, .slice none 0 0, .bool false]) ?_ 3 _ rfl; (with_reducible repeat (first | refine bN ?_ _ | refine bD ?_ | refine bA ?_ _)); refine blk_put (cs := #[.int .i64 0, .int .i64 0, .int .i64 0, .slice none 0 0, .slice none 0 0, .bool false]) ?_ 2 _ rfl; (with_reducible repeat (first | refine bN ?_ _ | refine bD ?_ | refine bA ?_ _)); refine blk_put (cs := #[.int .i64 0, .int .i64 0, .int .i64 0, .slice none 0 0, .slice none 0 0, .bool false]) ?_ 1 _ rfl; (with_reducible repeat (first | refine bN ?_ _ | refine bD ?_ | refine bA ?_ _)); refine blk_put (cs := #[.int .i64 0, .int .i64 0, .int .i64 0, .slice none 0 0, .slice none 0 0, .bool false]) ?_ 0 _ rfl; (with_reducible repeat (first | refine bN ?_ _ | refine bD ?_ | refine bA ?_ _)); exact BK103.out) Try.underlying42 rfl (by kernel_rfl)) rfl ?_
  exact ⟨_, _, by first | rfl | (simp [errW_none, errW_some] <;> rfl) | (simp [*, errW_none, errW_some] <;> rfl), by first | exact Kd.R_nil _ _ _ _ _ | exact Kd.N_nil _ _ _ _ _ | exact Kd.V_nil _ _ _ _ _ | exact Kd.Q_nil _ _ _ _ _ | exact Kd.S_nil _ _ _ _ _, by first | exact Kd.R_nil _ _ _ _ _ | exact Kd.N_nil _ _ _ _ _ | exact Kd.V_nil _ _ _ _ _ | exact Kd.Q_nil _ _ _ _ _ | exact Kd.S_nil _ _ _ _ _, by repeat (first | (with_reducible first | exact HB.out | apply lA | apply lN | apply lD | refine lS ?_ GE103.out) | exact HB.out)⟩

/-! ### slices_IndexFunc_int_int: function 88 -/
section
variable {P : Program} {ops : Array Oper} {Q : Exit → Act → World → Prop}
/-- A call through a value that holds a function. -/
theorem goesV_ {oi : Oper} {N : Option Tmp} {a : Act} {w : World} {K : Act → World → Prop} {f : FuncId} {fn : Func} {x : Operand} {as_ : Array Operand} {ts : Array TypeId} (hf : P.funcs[f]? = some fn) (hname : (fn.name == "runtime.NumGoroutine") = false) (hb : fn.body.isSome = true) (args : Array Value)
  (hw : Region.wanted oi (yielded ops a.tmps) = true) (hN : oi.dst = N) (hop : oi.op = .call { callee := .value x, args := as_, argTypes := ts }) (hx : a.eval x = .func (.func f) #[] #[]) (hargs : as_.map a.eval = args)
  (h : Calls P f args w fun e w' => ∃ v, e = .returned v ∧ K (a.put N v) w') : if Region.wanted oi (yielded ops a.tmps) = true then Oper.wp P oi a w K Q else K (a.put N undef) w := by
 refine call_ f args hw hN ?_ h
 have he := enters_ hf hname hb args w
 unfold execOp
 simp [hop, resolve, hx, Deferred.ofValue, invoke, hargs, he]
theorem goesVL_ {rest : List Oper} {oi : Oper} {a : Act} {w : World} (N : Option Tmp) (hd : oi.dst = N) (hg : oi.guard = none) {f : FuncId} {fn : Func} {x : Operand} {as_ : Array Operand} {ts : Array TypeId} (hf : P.funcs[f]? = some fn) (hname : (fn.name == "runtime.NumGoroutine") = false) (hb : fn.body.isSome = true) (args : Array Value)
  (hop : oi.op = .call { callee := .value x, args := as_, argTypes := ts }) (hx : a.eval x = .func (.func f) #[] #[]) (hargs : as_.map a.eval = args)
  (h : Calls P f args w fun e w' => ∃ v, e = .returned v ∧ wpList P ops Q rest (a.put N v) w') : wpList P ops Q (oi :: rest) a w := by
 refine wpList_plain hg fun K hK => ?_
 have he := enters_ hf hname hb args w
 have hrun : (execOp a.eval oi).run P w = .ok (.enter f args) w := by
  unfold execOp
  simp [hop, resolve, hx, Deferred.ofValue, invoke, hargs, he]
 unfold Oper.wp
 rw [hrun, Oper.upon_enter]
 refine h.mono fun e w'' hh => ?_
 obtain ⟨v, rfl, hk⟩ := hh
 subst hd
 exact hK _ _ hk
end

def slices_IndexFunc_int_int.l0 : Nat → List Int → Int → Int → Option (Int)
 | 0, _, _, _ => none
 | k + 1, x0, x7, x8 => if x8 < x7 then (if 0 ≤ x8 then (if x8 < (x0.length : Int) then ((sched_over_1.f (rd x0 x8)).bind fun t115 => (if t115 = true then (some x8) else (slices_IndexFunc_int_int.l0 k x0 x7 (wrap64 (x8 + 1))))) else (none)) else (none)) else (some (-1))
def slices_IndexFunc_int_int.f (k : Nat) (l0 : List Int) : Option (Int) := slices_IndexFunc_int_int.l0 k l0 (l0.length : Int) 0
theorem slices_IndexFunc_int_int.mono_l : ∀ k, (∀ y0 y1 y2, LeO (slices_IndexFunc_int_int.l0 k y0 y1 y2) (slices_IndexFunc_int_int.l0 (k + 1) y0 y1 y2))
 | 0 => fun _ _ _ r h => by simp [slices_IndexFunc_int_int.l0] at h
 | k + 1 => by
  have ih0 := slices_IndexFunc_int_int.mono_l k
  ·intro y0 y1 y2
   unfold slices_IndexFunc_int_int.l0
   repeat' first
   | (with_reducible exact ih0 _ _ _)
   | (with_reducible exact LeO.refl _)
   | (with_reducible exact LeO.none _)
   | (with_reducible refine LeO.ite ?_ ?_)
   | (with_reducible refine LeO.bind ?_ (fun _ => ?_))
   | exact ih0 _ _ _
   | exact LeO.none _
   | refine LeO.ite ?_ ?_
   | refine LeO.bind ?_ (fun _ => ?_)
theorem slices_IndexFunc_int_int.mono : ∀ a0 k, LeO (slices_IndexFunc_int_int.f k a0) (slices_IndexFunc_int_int.f (k + 1) a0) := by
 intro a0 k
 have ih0 := slices_IndexFunc_int_int.mono_l k
 unfold slices_IndexFunc_int_int.f
 repeat' first
   | (with_reducible exact ih0 _ _ _)
   | (with_reducible exact LeO.refl _)
   | (with_reducible exact LeO.none _)
   | (with_reducible refine LeO.ite ?_ ?_)
   | (with_reducible refine LeO.bind ?_ (fun _ => ?_))
   | exact ih0 _ _ _
   | exact LeO.none _
   | refine LeO.ite ?_ ?_
   | refine LeO.bind ?_ (fun _ => ?_)
set_option maxHeartbeats 8000000 in
set_option maxRecDepth 100000 in
theorem slices_IndexFunc_int_int.calls (k : Nat) (A0 : Option Addr) (c0 : Nat) (l0 : List Int) (r : Int) (w : World) (hr0 : Kd.C (Kd.int .i64) w A0 l0.length l0) (hc0 : l0.length ≤ c0) (h : slices_IndexFunc_int_int.f k l0 = some r) :
  Calls Try.prog 88 #[.slice A0 l0.length c0, .func (.func 81) #[] #[]] w fun e w' => e = .returned (.int .i64 r) ∧ Drawn0 w w' := by
 have HR0 := aaM hr0
 have HC0 := aaM hc0
 clear hr0 hc0
 have H : (slices_IndexFunc_int_int.l0 k l0 (l0.length : Int) 0) = some r := h
 clear h
 have H' := aaM H
 clear H
 go_enter Try.func88, Try.ntmps88
 go_wp2
 go_loopg [8] k (fun kq v8 w' => ∃ (x8_1 : Int), v8 = .int .i64 x8_1 ∧ Aside0 (slices_IndexFunc_int_int.l0 kq l0 (l0.length : Int) x8_1 = some r) ∧ Aside0 (kq ≤ k) ∧ Drawn0 w w')
 case atStart => exact ⟨(0), (by first | rfl | (simp; done) | (simp [*]; done)), H', ⟨Nat.le_refl _⟩, by repeat (first | exact Drawn0.refl _ | apply Drawn0.step)⟩
 case round =>
  clear H'
  obtain ⟨x8_1, rfl, HA, HK1, ⟨m1, rfl⟩⟩ := hrel
  cases gk with
  | zero => exact absurd HA.out (by simp [slices_IndexFunc_int_int.l0])
  | succ k1 =>
   have H := HA.out
   clear HA
   simp only [slices_IndexFunc_int_int.l0] at H
   by_cases c2 : x8_1 < (l0.length : Int)
   ·rw [if_pos c2] at H
    have c2b0 : decide (x8_1 < (l0.length : Int)) = true := decide_eq_true c2
    clear c2
    by_cases c3 : 0 ≤ x8_1
    ·rw [if_pos c3] at H
     have c3b0 : decide (0 ≤ x8_1) = true := decide_eq_true c3
     clear c3
     by_cases c4 : x8_1 < (l0.length : Int)
     ·rw [if_pos c4] at H
      have c4b0 : decide (x8_1 < (l0.length : Int)) = true := decide_eq_true c4
      clear c4
      replace H := ooB.mp H
      obtain ⟨t115, A50, H⟩ := H
      replace H : (if t115 = true then (some x8_1) else (slices_IndexFunc_int_int.l0 k1 l0 (l0.length : Int) (wrap64 (x8_1 + 1)))) = some r := H
      have A5 := aaM A50
      clear A50
      by_cases c6 : t115 = true
      ·subst c6
       have H1 : (some x8_1) = some r := by rw [if_pos rfl] at H; exact H
       clear H
       have H := H1
       clear H1
       obtain rfl := Option.some.inj H
       have p114 : 0 ≤ (x8_1 : Int) := of_decide_eq_true (by first | (with_reducible assumption) | assumption)
       have q114 : x8_1 < (l0.length : Int) := of_decide_eq_true (by first | (with_reducible assumption) | assumption)
       obtain ⟨ad114, e114, hx114_0⟩ := Kd.at_int HR0.out x8_1 p114 q114
       cases e114
       replace p114 := eq_true p114
       replace q114 := eq_true q114
       go_wp2_with (first | ((with_reducible refine gate_dst (N := 16) rfl ?_); refine goesVL_ (some 16) rfl rfl Try.func81 (by kernel_rfl) rfl #[.int .i64 (rd l0 x8_1)] rfl rfl (by (try simp only [List.map_toArray, List.map_cons, List.map_nil]); first | done | rfl | (simp only [List.length_drop, List.length_take]; rfl)) ?_; (with_reducible refine (sched_over_1.calls (rd l0 x8_1) true _ A5.out).mono ?_); rintro e w' ⟨rfl, ⟨nd, rfl⟩⟩; refine ⟨_, rfl, ?_⟩))
       all_goals (go_ret; exact ⟨by first | rfl | (simp; done) | (simp [*]; done), by repeat (first | exact Drawn0.refl _ | apply Drawn0.step)⟩)
      ·replace c6 := Bool.eq_false_iff.mpr c6
       subst c6
       have H1 : (slices_IndexFunc_int_int.l0 k1 l0 (l0.length : Int) (wrap64 (x8_1 + 1))) = some r := by rw [if_neg (show ¬ (false = true) by decide)] at H; exact H
       clear H
       have H := H1
       clear H1
       have H' := aaM H
       clear H
       have p114 : 0 ≤ (x8_1 : Int) := of_decide_eq_true (by first | (with_reducible assumption) | assumption)
       have q114 : x8_1 < (l0.length : Int) := of_decide_eq_true (by first | (with_reducible assumption) | assumption)
       obtain ⟨ad114, e114, hx114_0⟩ := Kd.at_int HR0.out x8_1 p114 q114
       cases e114
       replace p114 := eq_true p114
       replace q114 := eq_true q114
       go_wp2_with (first | ((with_reducible refine gate_dst (N := 16) rfl ?_); refine goesVL_ (some 16) rfl rfl Try.func81 (by kernel_rfl) rfl #[.int .i64 (rd l0 x8_1)] rfl rfl (by (try simp only [List.map_toArray, List.map_cons, List.map_nil]); first | done | rfl | (simp only [List.length_drop, List.length_take]; rfl)) ?_; (with_reducible refine (sched_over_1.calls (rd l0 x8_1) false _ A5.out).mono ?_); rintro e w' ⟨rfl, ⟨nd, rfl⟩⟩; refine ⟨_, rfl, ?_⟩))
       go_roundg k1
       case measure => have := HK1.out; omega
       case rel => exact ⟨(wrap64 (x8_1 + 1)), (by first | rfl | (simp; done) | (simp [*]; done)), H', ⟨by have := HK1.out; omega⟩, by repeat (first | exact Drawn0.refl _ | apply Drawn0.step)⟩
     ·rw [if_neg c4] at H
      exact absurd H (by simp)
    ·rw [if_neg c3] at H
     exact absurd H (by simp)
   ·rw [if_neg c2] at H
    have c2b0 : decide (x8_1 < (l0.length : Int)) = false := decide_eq_false c2
    clear c2
    obtain rfl := Option.some.inj H
    go_wp2
    all_goals (go_ret; exact ⟨by first | rfl | (simp; done) | (simp [*]; done), by repeat (first | exact Drawn0.refl _ | apply Drawn0.step)⟩)

/-! ### slices_ContainsFunc_int_int: function 80 -/
def slices_ContainsFunc_int_int.f (k : Nat) (l0 : List Int) : Option (Bool) := (slices_IndexFunc_int_int.f k l0).bind fun t116 => (some (decide (t116 ≥ 0)))
theorem slices_ContainsFunc_int_int.mono : ∀ a0 k, LeO (slices_ContainsFunc_int_int.f k a0) (slices_ContainsFunc_int_int.f (k + 1) a0) := by
 intro a0 k
 unfold slices_ContainsFunc_int_int.f
 repeat' first
   | (with_reducible exact slices_IndexFunc_int_int.mono _ _)
   | (with_reducible exact LeO.refl _)
   | (with_reducible exact LeO.none _)
   | (with_reducible refine LeO.ite ?_ ?_)
   | (with_reducible refine LeO.bind ?_ (fun _ => ?_))
   | exact slices_IndexFunc_int_int.mono _ _
   | exact LeO.none _
   | refine LeO.ite ?_ ?_
   | refine LeO.bind ?_ (fun _ => ?_)
set_option maxHeartbeats 8000000 in
set_option maxRecDepth 100000 in
theorem slices_ContainsFunc_int_int.calls (k : Nat) (A0 : Option Addr) (c0 : Nat) (l0 : List Int) (r : Bool) (w : World) (hr0 : Kd.C (Kd.int .i64) w A0 l0.length l0) (hc0 : l0.length ≤ c0) (h : slices_ContainsFunc_int_int.f k l0 = some r) :
  Calls Try.prog 80 #[.slice A0 l0.length c0, .func (.func 81) #[] #[]] w fun e w' => e = .returned (.bool r) ∧ Drawn0 w w' := by
 have HR0 := aaM hr0
 have HC0 := aaM hc0
 clear hr0 hc0
 have H : ((slices_IndexFunc_int_int.f k l0).bind fun t116 => (some (decide (t116 ≥ 0)))) = some r := h
 clear h
 replace H := ooB.mp H
 obtain ⟨t116, A20, H⟩ := H
 replace H : (some (decide (t116 ≥ 0))) = some r := H
 have A2 := aaM A20
 clear A20
 obtain rfl := Option.some.inj H
 go_enter Try.func80, Try.ntmps80
 go_wp2_with (first | ((with_reducible refine gate_callee (f := 88) rfl ?_); refine goesL_ (some 7) rfl rfl Try.func88 (by kernel_rfl) rfl #[.slice A0 l0.length c0, .func (.func 81) #[] #[]] rfl (by (try simp only [List.map_toArray, List.map_cons, List.map_nil]); first | done | rfl | (simp only [List.length_drop, List.length_take]; rfl)) ?_; (with_reducible refine (slices_IndexFunc_int_int.calls k _ _ l0 t116 _ ?side1 ?side2 A2.out).mono ?_); (case side1 => repeat (first | exact HR0.out | (with_reducible refine ccA ?_ _) | (with_reducible refine ccN ?_ _) | (with_reducible refine ccD ?_))); (case side2 => exact HC0.out); rintro e w' ⟨rfl, ⟨nd, rfl⟩⟩; refine ⟨_, rfl, ?_⟩))
 all_goals (go_ret; exact ⟨by first | rfl | (simp; done) | (simp [*]; done), by repeat (first | exact Drawn0.refl _ | apply Drawn0.step)⟩)

/-! ### sched_over: function 66 -/
def sched_over.f (k : Nat) (a0_0 : Int) (a0_1 : Int) (a0_2 : Int) (l0_3 : List Int) (l0_4 : List Bool) (a0_5 : Bool) : Option (Bool) := (slices_ContainsFunc_int_int.f k l0_3).bind fun t118 => (some (!t118))
theorem sched_over.mono : ∀ a0 a1 a2 a3 a4 a5 k, LeO (sched_over.f k a0 a1 a2 a3 a4 a5) (sched_over.f (k + 1) a0 a1 a2 a3 a4 a5) := by
 intro a0 a1 a2 a3 a4 a5 k
 unfold sched_over.f
 repeat' first
   | (with_reducible exact slices_ContainsFunc_int_int.mono _ _)
   | (with_reducible exact LeO.refl _)
   | (with_reducible exact LeO.none _)
   | (with_reducible refine LeO.ite ?_ ?_)
   | (with_reducible refine LeO.bind ?_ (fun _ => ?_))
   | exact slices_ContainsFunc_int_int.mono _ _
   | exact LeO.none _
   | refine LeO.ite ?_ ?_
   | refine LeO.bind ?_ (fun _ => ?_)
set_option maxHeartbeats 8000000 in
set_option maxRecDepth 100000 in
theorem sched_over.calls (k : Nat) (a0_0 : Int) (a0_1 : Int) (a0_2 : Int) (A0_3 : Option Addr) (c0_3 : Nat) (l0_3 : List Int) (A0_4 : Option Addr) (c0_4 : Nat) (l0_4 : List Bool) (a0_5 : Bool) (r : Bool) (w : World) (hr0_3 : Kd.C (Kd.int .i64) w A0_3 l0_3.length l0_3) (hc0_3 : l0_3.length ≤ c0_3) (hr0_4 : Kd.C Kd.bool w A0_4 l0_4.length l0_4) (hc0_4 : l0_4.length ≤ c0_4) (h : sched_over.f k a0_0 a0_1 a0_2 l0_3 l0_4 a0_5 = some r) :
  Calls Try.prog 66 #[.agg #[.int .i64 a0_0, .int .i64 a0_1, .int .i64 a0_2, .slice A0_3 l0_3.length c0_3, .slice A0_4 l0_4.length c0_4, .bool a0_5]] w fun e w' => e = .returned (.bool r) ∧ Below w.heap.size w w' := by
 have hu42 := Try.underlying42
 have HR0_3 := aaM hr0_3
 have HC0_3 := aaM hc0_3
 clear hr0_3 hc0_3
 have HR0_4 := aaM hr0_4
 have HC0_4 := aaM hc0_4
 clear hr0_4 hc0_4
 have HB := aaM (Below.refl w.heap.size w)
 have H : ((slices_ContainsFunc_int_int.f k l0_3).bind fun t118 => (some (!t118))) = some r := h
 clear h
 replace H := ooB.mp H
 obtain ⟨t118, A20, H⟩ := H
 replace H : (some (!t118)) = some r := H
 have A2 := aaM A20
 clear A20
 obtain rfl := Option.some.inj H
 go_enter Try.func66, Try.ntmps66
 go_wp2_with (first | ((with_reducible refine gate_dst (N := 1) rfl ?_); refine box_event ?hg (N := 1) ?hd (cs := #[.int .i64 a0_0, .int .i64 a0_1, .int .i64 a0_2, .slice A0_3 l0_3.length c0_3, .slice A0_4 l0_4.length c0_4, .bool a0_5]) (t := 42) ?hr ?_; (case hd => rfl); (case hg => rfl); (case hr => first | (go_simp; done) | (go_simp; rfl)); intro gb117 hg w3 hbox hb; have n0_ := aaM (lP (by repeat (first | (with_reducible first | exact HB.out | apply lA | apply lN | apply lD) | exact HB.out)) hb); have n1_ := aaM (hbox); have n2_ := aaM ((by rw [hg]; exact (lZ (by repeat (first | (with_reducible first | exact HB.out | apply lA | apply lN | apply lD) | exact HB.out))) : w.heap.size ≤ gb117)); have n3_ := aaM ((by rw [hg]; exact (lZ (by repeat (first | (with_reducible first | exact HB.out | apply lA | apply lN | apply lD) | exact HB.out))) : w.heap.size ≤ gb117)); clear HB; have HB := n0_; have BK117 := n1_; have GW117 := n2_; have GE117 := n3_; clear n0_ n1_ n2_ n3_; clear hb hbox hg; have hcz4_0 : w3.cell? ⟨gb117, 0, none⟩ = some (.int .i64 a0_0) := (bC BK117.out 0).trans rfl; have hcz4_1 : w3.cell? ⟨gb117, 1, none⟩ = some (.int .i64 a0_1) := (bC BK117.out 1).trans rfl; have hcz4_2 : w3.cell? ⟨gb117, 2, none⟩ = some (.int .i64 a0_2) := (bC BK117.out 2).trans rfl; have hcz4_3 : w3.cell? ⟨gb117, 3, none⟩ = some (.slice A0_3 l0_3.length c0_3) := (bC BK117.out 3).trans rfl; have hcz4_4 : w3.cell? ⟨gb117, 4, none⟩ = some (.slice A0_4 l0_4.length c0_4) := (bC BK117.out 4).trans rfl; have hcz4_5 : w3.cell? ⟨gb117, 5, none⟩ = some (.bool a0_5) := (bC BK117.out 5).trans rfl; have hfz4_0 := bF BK117.out 0; have hfz4_1 := bF BK117.out 1; have hfz4_2 := bF BK117.out 2; have hfz4_3 := bF BK117.out 3; have hfz4_4 := bF BK117.out 4; have hfz4_5 := bF BK117.out 5) | ((with_reducible refine gate_callee (f := 80) rfl ?_); refine goesL_ (some 5) rfl rfl Try.func80 (by kernel_rfl) rfl #[.slice A0_3 l0_3.length c0_3, .func (.func 81) #[] #[]] rfl (by (try simp only [List.map_toArray, List.map_cons, List.map_nil]); first | done | rfl | (simp only [List.length_drop, List.length_take]; rfl)) ?_; (with_reducible refine (slices_ContainsFunc_int_int.calls k _ _ l0_3 t118 _ ?side1 ?side2 A2.out).mono ?_); (case side1 => repeat (first | exact (ccB HR0_3.out HB.out) | (with_reducible refine ccA ?_ _) | (with_reducible refine ccN ?_ _) | (with_reducible refine ccD ?_))); (case side2 => exact HC0_3.out); rintro e w' ⟨rfl, ⟨nd, rfl⟩⟩; refine ⟨_, rfl, ?_⟩))
 all_goals (go_ret; exact ⟨by first | rfl | (simp [errW_none, errW_some] <;> rfl) | (simp [*, errW_none, errW_some] <;> rfl) | (simp_all; done), by repeat (first | (with_reducible first | exact HB.out | apply lA | apply lN | apply lD | refine lS ?_ GE117.out) | exact HB.out)⟩)

end Go.Proofs.Ytoonddgldmfleaa.QSchedPlays
