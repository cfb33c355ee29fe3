/- For every list of numbers the law SpreadMay answers true. No condition. -/
import Derived.Test.YtoonddgldmfleaaQSpreadMayx6
import Derived.Test.YtoonddgldmfleaaP64
import Derived.Test.YtoonddgldmfleaaSums
namespace Go.Proofs.Ytoonddgldmfleaa.Pure
open Go.RowKit Go.Proofs.Ytoonddgldmfleaa.QSpreadMay Go.Proofs.YtoonddgldmfleaaW.PrintWords Go.Proofs.YtoonddgldmfleaaW.PrintLast
open Go.Proofs.Ytoonddgldmfleaa.P64 Go.Proofs.Ytoonddgldmfleaa.Sums
namespace SpreadMay0
theorem compare_f (a b : Int) : cmp_Compare_uint64.f a b = some (cmpI a b) := by
  unfold cmp_Compare_uint64.f cmp_isNaN_uint64.f cmpI
  rw [Option.bind_some, Option.bind_some, if_neg (by simp), if_neg (by simp)]
  split
  · rfl
  · split <;> rfl
theorem or_f (k : Nat) (hk : 3 ≤ k) (a b : Int) : cmp_Or_int.f k [a, b] = some (if a = 0 then b else a) := by
  obtain ⟨k, rfl⟩ : ∃ m, k = m + 3 := ⟨k - 3, by omega⟩
  unfold cmp_Or_int.f
  rw [cmp_Or_int.l0, if_pos (by simp), if_pos (by omega), if_pos (by simp)]
  rw [show rd [a, b] 0 = a from rfl, show wrap64 (0 + 1) = 1 by unfold wrap64; omega]
  by_cases ha : a = 0
  · rw [if_pos ha, cmp_Or_int.l0, if_pos (by simp), if_pos (by omega), if_pos (by simp), show rd [a, b] 1 = b from rfl, show wrap64 (1 + 1) = 2 by unfold wrap64; omega, if_pos ha]
    by_cases hb : b = 0
    · rw [if_pos hb, cmp_Or_int.l0, if_neg (by simp), hb]
    · rw [if_neg hb]
  · rw [if_neg ha, if_neg ha]
theorem cmp_f (k : Nat) (hk : 3 ≤ k) (X Y : Int) : prod_Cmp.f k (X / 18446744073709551616) (X % 18446744073709551616) (Y / 18446744073709551616) (Y % 18446744073709551616) = some (cmpI X Y) := by
  unfold prod_Cmp.f
  rw [compare_f, Option.bind_some, compare_f, Option.bind_some, or_f k hk, Option.bind_some]
  congr 1
  unfold cmpI
  by_cases h1 : X / 18446744073709551616 < Y / 18446744073709551616
  · rw [if_pos h1, if_neg (by decide), if_pos (by omega)]
  · rw [if_neg h1]
    by_cases h2 : Y / 18446744073709551616 < X / 18446744073709551616
    · rw [if_pos h2, if_neg (by decide), if_neg (by omega), if_pos (by omega)]
    · rw [if_neg h2, if_pos rfl]
      by_cases h3 : X % 18446744073709551616 < Y % 18446744073709551616
      · rw [if_pos h3, if_pos (by omega)]
      · rw [if_neg h3, if_neg (show ¬ X < Y by omega)]
        by_cases h4 : Y % 18446744073709551616 < X % 18446744073709551616
        · rw [if_pos h4, if_pos (by omega)]
        · rw [if_neg h4, if_neg (by omega)]
theorem size_f (a : Int) : prod_size.f a = some (sizeI a) := by unfold prod_size.f sizeI; split <;> rfl
theorem mul_f (a b : Int) : prod_Mul.f a b = some (mul64 a b) := rfl
/-- A wide number's words. -/
def wideD (X : Int) : Int × Int := (X / 18446744073709551616, X % 18446744073709551616)
theorem square_f {a : Int} (a0 : -9223372036854775808 ≤ a) (a1 : a ≤ 9223372036854775807) : prod_Square.f a = some (wideD (a * a)) := by
  unfold prod_Square.f wideD
  rw [size_f, Option.bind_some, Option.bind_some, mul_f, Option.bind_some, sizeI_eq a0 a1, mul64_eq (by omega) (by omega) (by omega) (by omega), Int.natAbs_mul_self']
/-- May these be a moment's numbers? -/
def MayP (c s q : Int) : Prop := (c = 0 ∧ s = 0 ∧ q = 0) ∨ (1 ≤ c ∧ c ≤ 1048576 ∧ 0 ≤ q ∧ q ≤ 1099511627776 * c ∧ -(1048576 * c) ≤ s ∧ s ≤ 1048576 * c ∧ s * s ≤ c * q)
instance (c s q : Int) : Decidable (MayP c s q) := by unfold MayP; exact inferInstance
def InI (n : Int) : Prop := -9223372036854775808 ≤ n ∧ n ≤ 9223372036854775807
theorem bound_f {c s q : Int} (c0 : 0 ≤ c) (c1 : c ≤ 9223372036854775807) (q0 : 0 ≤ q) (q1 : q ≤ 9223372036854775807) : spread_bound.f c s q = some (wideD (c * q)) := by
  unfold spread_bound.f wideD
  rw [uwrap_id c0 (by omega), uwrap_id q0 (by omega), mul_f, Option.bind_some, mul64_eq (by omega) (by omega) (by omega) (by omega)]
theorem may_f (k : Nat) (hk : 10 ≤ k) {c s q : Int} (hc : InI c) (hs : InI s) (hq : InI q) : spread_May.f k c s q = some (decide (MayP c s q)) := by
  unfold InI at hc hs hq
  obtain ⟨k, rfl⟩ : ∃ m, k = m + 5 := ⟨k - 5, by omega⟩
  unfold spread_May.f spread_none.f
  rw [Option.bind_some]
  by_cases h0 : c = 0 ∧ s = 0 ∧ q = 0
  · obtain ⟨rfl, rfl, rfl⟩ := h0
    rw [if_pos (by decide), decide_eq_true (show MayP 0 0 0 from .inl ⟨rfl, rfl, rfl⟩)]
  · rw [if_neg (by simpa using h0)]
    have jt : ∀ m, spread_May.j0 (m + 1) true c s q = some false := fun m => by rw [spread_May.j0, if_pos rfl]
    by_cases h1 : c < 1
    · rw [if_pos h1, jt, decide_eq_false]
      rintro (h | h)
      · exact h0 h
      · omega
    · rw [if_neg h1]
      by_cases h2 : c > 1048576
      · rw [if_pos h2, jt, decide_eq_false]
        rintro (h | h)
        · exact h0 h
        · omega
      · rw [if_neg h2]
        by_cases h3 : q < 0
        · rw [if_pos h3, jt, decide_eq_false]
          rintro (h | h)
          · exact h0 h
          · omega
        · rw [if_neg h3, wrap64_id (n := 1099511627776 * c) (by omega) (by omega)]
          by_cases h4 : q > 1099511627776 * c
          · rw [decide_eq_true h4, jt, decide_eq_false]
            rintro (h | h)
            · exact h0 h
            · omega
          · rw [decide_eq_false h4, spread_May.j0, if_neg (by decide), wrap64_id (n := 1048576 * c) (by omega) (by omega), wrap64_id (n := -1048576 * c) (by omega) (by omega)]
            have jt2 : ∀ m, spread_May.j1 (m + 1) true c s q = some false := fun m => by rw [spread_May.j1, if_pos rfl]
            by_cases h5 : s > 1048576 * c
            · rw [if_pos h5, jt2, decide_eq_false]
              rintro (h | h)
              · exact h0 h
              · omega
            · rw [if_neg h5]
              by_cases h6 : s < -1048576 * c
              · rw [decide_eq_true h6, jt2, decide_eq_false]
                rintro (h | h)
                · exact h0 h
                · omega
              · rw [decide_eq_false h6, spread_May.j1, if_neg (by decide), square_f hs.1 hs.2, Option.bind_some, bound_f (by omega) (by omega) (by omega) (by omega), Option.bind_some]
                unfold wideD
                rw [cmp_f _ (by omega), Option.bind_some]
                congr 1
                rw [decide_eq_decide]
                unfold cmpI MayP
                constructor
                · intro h
                  refine .inr ⟨by omega, by omega, by omega, by omega, by omega, by omega, ?_⟩
                  by_cases h7 : s * s < c * q
                  · omega
                  · rw [if_neg h7] at h
                    by_cases h8 : c * q < s * s
                    · rw [if_pos h8] at h; omega
                    · omega
                · rintro (h | ⟨_, _, _, _, _, _, h⟩)
                  · exact absurd h h0
                  · split
                    · omega
                    · rw [if_neg (by omega)]; omega
theorem there_f (k : Nat) (hk : 10 ≤ k) {c s q : Int} (hc : InI c) (hs : InI s) (hq : InI q) : spread_there.f k c s q = some (decide (0 < c ∧ MayP c s q)) := by
  unfold spread_there.f
  by_cases h : c > 0
  · rw [if_pos h, may_f k hk hc hs hq, Option.bind_some]
    congr 1
    rw [decide_eq_decide]
    exact ⟨fun h1 => ⟨h, h1⟩, fun h1 => h1.2⟩
  · rw [if_neg h, decide_eq_false (fun h1 => h h1.1)]
theorem floor_f {a b : Int} (a0 : -9223372036854775808 ≤ a) (a1 : a ≤ 9223372036854775807) (hb : 1 ≤ b) : prod_Floor.f a b = some (a / b, 0) := by
  unfold prod_Floor.f
  rw [if_neg (by omega), if_neg (by omega)]
  exact floor_eq a0 a1 hb
theorem mean_f (k : Nat) (hk : 10 ≤ k) {c s q : Int} (hc : InI c) (hs : InI s) (hq : InI q) : spread_Mean.f k c s q = some (if 0 < c ∧ MayP c s q then (s / c, true) else (0, false)) := by
  unfold spread_Mean.f
  rw [there_f k hk hc hs hq, Option.bind_some]
  by_cases h : 0 < c ∧ MayP c s q
  · rw [decide_eq_true h, if_pos rfl, if_pos h, floor_f hs.1 hs.2 (by omega), Option.bind_some]
  · rw [decide_eq_false h, if_neg (by decide), if_neg h]
theorem alone_f (k : Nat) (hk : 10 ≤ k) {c s q : Int} (hc : InI c) (hs : InI s) (hq : InI q) : spread_Alone.f k c s q = some (if 0 < c ∧ MayP c s q then ((wideD (s * s)).1, (wideD (s * s)).2, c) else (0, 0, 0)) := by
  unfold spread_Alone.f
  rw [there_f k hk hc hs hq, Option.bind_some]
  by_cases h : 0 < c ∧ MayP c s q
  · unfold InI at hc hs
    rw [decide_eq_true h, if_pos rfl, if_pos h, square_f hs.1 hs.2, Option.bind_some, uwrap_id (by omega) (by omega)]
  · rw [decide_eq_false h, if_neg (by decide), if_neg h]
theorem fixed_f (k : Nat) (hk : 10 ≤ k) : hornbeamlaw15_fixed.f k = some true := by
  have hm : (0 : Int) < 3 ∧ MayP 3 7 19 := by decide
  unfold hornbeamlaw15_fixed.f
  rw [mean_f k hk (by unfold InI; omega) (by unfold InI; omega) (by unfold InI; omega), Option.bind_some, alone_f k hk (by unfold InI; omega) (by unfold InI; omega) (by unfold InI; omega), Option.bind_some, if_pos hm, if_pos hm]
  rfl
theorem pure_f (k : Nat) (hk : 10 ≤ k) {c s q : Int} (hc : InI c) (hs : InI s) (hq : InI q) : spread_Pure.f k c s q = some (decide (MayP c s q ∧ s * s = c * q)) := by
  unfold spread_Pure.f
  rw [may_f k hk hc hs hq, Option.bind_some]
  by_cases h : MayP c s q
  · have hb : 0 ≤ c ∧ 0 ≤ q := by rcases h with h | h <;> omega
    unfold InI at hc hs hq
    rw [decide_eq_true h, if_pos rfl, square_f hs.1 hs.2, Option.bind_some, bound_f hb.1 (by omega) hb.2 (by omega), Option.bind_some]
    unfold wideD
    rw [cmp_f _ (by omega), Option.bind_some]
    congr 1
    unfold cmpI
    by_cases h7 : s * s < c * q
    · rw [if_pos h7, decide_eq_false (fun h1 => by omega)]; rfl
    · rw [if_neg h7]
      by_cases h8 : c * q < s * s
      · rw [if_pos h8, decide_eq_false (fun h1 => by omega)]; rfl
      · rw [if_neg h8, decide_eq_true ⟨h, by omega⟩]; rfl
  · rw [decide_eq_false h, if_neg (by decide), decide_eq_false (fun h1 => h h1.1)]
theorem rd_nat (l : List Int) (i : Nat) : rd l (i : Int) = l.getD i 0 := rfl
theorem limited_l (x0 l : List Int) (hl : l.length ≤ 17592186044416) (d : Nat) : ∀ (k i : Nat), i + d = l.length → d < k →
    hornbeamlaw15_limited.l0 k x0 l (l.length : Int) (i : Int) = some (decide (lim (l.drop i) ∧ (x0.length : Int) ≤ 200)) := by
  induction d with
  | zero =>
    intro k i hi hk
    obtain ⟨k, rfl⟩ : ∃ m, k = m + 1 := ⟨k - 1, by omega⟩
    rw [hornbeamlaw15_limited.l0, if_neg (by omega), List.drop_eq_nil_of_le (by omega)]
    congr 1
    rw [decide_eq_decide]
    exact ⟨fun h => ⟨(fun x hx => by cases hx), h⟩, fun h => h.2⟩
  | succ d ih =>
    intro k i hi hk
    obtain ⟨k, rfl⟩ : ∃ m, k = m + 1 := ⟨k - 1, by omega⟩
    have hlt : i < l.length := by omega
    have e : l.getD i 0 = l[i] := by simp [List.getD, hlt]
    rw [hornbeamlaw15_limited.l0, if_pos (by omega), if_pos (by omega), if_pos (by omega), rd_nat, e, List.drop_eq_getElem_cons hlt, show wrap64 ((i : Int) + 1) = ((i + 1 : Nat) : Int) by unfold wrap64; omega]
    by_cases h1 : l[i] > 1048576
    · rw [if_pos h1, decide_eq_false (fun h => by have := h.1.head; omega)]
    · rw [if_neg h1]
      by_cases h2 : l[i] < -1048576
      · rw [if_pos h2, decide_eq_false (fun h => by have := h.1.head; omega)]
      · rw [if_neg h2, ih k (i + 1) (by omega) (by omega)]
        congr 1
        rw [decide_eq_decide]
        refine ⟨fun h => ⟨?_, h.2⟩, fun h => ⟨h.1.tail, h.2⟩⟩
        intro x hx
        rcases List.mem_cons.1 hx with rfl | hx
        · omega
        · exact h.1 x hx
theorem limited_f (l : List Int) (hl : l.length ≤ 17592186044416) (k : Nat) (hk : l.length < k) : hornbeamlaw15_limited.f k l = some (decide (lim l ∧ (l.length : Int) ≤ 200)) :=
  limited_l l l hl l.length k 0 (by omega) hk
theorem of_l (l : List Int) (hl : lim l) (h200 : l.length ≤ 1000) (d : Nat) : ∀ (k i : Nat) (c s q : Int), i + d = l.length → d < k → 0 ≤ c → c ≤ i → -(1048576 * (i : Int)) ≤ s → s ≤ 1048576 * (i : Int) → 0 ≤ q → q ≤ 1099511627776 * (i : Int) →
    hornbeamref15_Of.l0 k l (i : Int) c s q = some (c + d, s + S1 (l.drop i), q + S2 (l.drop i)) := by
  induction d with
  | zero =>
    intro k i c s q hi hk c0 c1 s0 s1 q0 q1
    obtain ⟨k, rfl⟩ : ∃ m, k = m + 1 := ⟨k - 1, by omega⟩
    rw [hornbeamref15_Of.l0, if_neg (by omega), List.drop_eq_nil_of_le (by omega)]
    simp [S1, S2]
  | succ d ih =>
    intro k i c s q hi hk c0 c1 s0 s1 q0 q1
    obtain ⟨k, rfl⟩ : ∃ m, k = m + 1 := ⟨k - 1, by omega⟩
    have hlt : i < l.length := by omega
    have e : l.getD i 0 = l[i] := by simp [List.getD, hlt]
    have hx := hl l[i] (List.getElem_mem hlt)
    have hxx := sq_bound hx.1 hx.2
    rw [hornbeamref15_Of.l0, if_pos (by omega), if_pos (by omega), rd_nat, e, List.drop_eq_getElem_cons hlt, show wrap64 ((i : Int) + 1) = ((i + 1 : Nat) : Int) by unfold wrap64; omega,
      wrap64_id (n := c + 1) (by omega) (by omega), wrap64_id (n := s + l[i]) (by omega) (by omega), wrap64_id (n := l[i] * l[i]) (by omega) (by omega), wrap64_id (n := q + l[i] * l[i]) (by omega) (by omega),
      ih k (i + 1) _ _ _ (by omega) (by omega) (by omega) (by omega) (by omega) (by omega) (by omega) (by omega), S1, S2]
    simp only [Option.some.injEq, Prod.mk.injEq]
    omega
theorem of_f (l : List Int) (hl : lim l) (h200 : l.length ≤ 1000) (k : Nat) (hk : l.length < k) : hornbeamref15_Of.f k l = some ((l.length : Int), S1 l, S2 l) := by
  have := of_l l hl h200 l.length k 0 0 0 0 (by omega) hk (by omega) (by omega) (by omega) (by omega) (by omega) (by omega)
  unfold hornbeamref15_Of.f
  rw [List.drop_zero, Int.zero_add, Int.zero_add, Int.zero_add] at this
  exact this
/-- What targets within the limits come to may be. -/
theorem of_may (l : List Int) (hl : lim l) (h : l.length ≤ 1000) : MayP (l.length : Int) (S1 l) (S2 l) := by
  cases l with
  | nil => exact .inl ⟨rfl, rfl, rfl⟩
  | cons x m =>
    have h1 := S1_bound hl; have h2 := S2_bound hl; have h3 := D_nonneg (x :: m)
    unfold D at h3
    refine .inr ⟨by rw [List.length_cons]; omega, by omega, h2.1, by omega, by omega, by omega, by omega⟩
theorem loop_f (l : List Int) (hl : l.length ≤ 1000) (q : Int) (ok : Bool) (c s qq : Int) (d : Nat) : ∀ (k i : Nat) (sm ab be : Bool), i + d = l.length →
    hornbeamlaw15_SpreadMay.l0 (k + d) l sm ab be q ok l (l.length : Int) (i : Int) c s qq =
    hornbeamlaw15_SpreadMay.l0 k l (sm && (l.drop i).all (· == rd l 0)) (ab || (l.drop i).any (fun t => decide (t ≥ q))) (be || (l.drop i).any (fun t => decide (t ≤ q))) q ok l (l.length : Int) (l.length : Int) c s qq := by
  induction d with
  | zero =>
    intro k i sm ab be hi
    have e : i = l.length := by omega
    subst e
    rw [List.drop_length, List.all_nil, List.any_nil, List.any_nil, Bool.and_true, Bool.or_false, Bool.or_false]; rfl
  | succ d ih =>
    intro k i sm ab be hi
    have hlt : i < l.length := by omega
    have e : l.getD i 0 = l[i] := by simp [List.getD, hlt]
    rw [show k + (d + 1) = k + d + 1 by omega, hornbeamlaw15_SpreadMay.l0, if_pos (by omega), if_pos (by omega), if_pos (by omega), show wrap64 ((i : Int) + 1) = ((i + 1 : Nat) : Int) by unfold wrap64; omega, rd_nat, e,
      List.drop_eq_getElem_cons hlt, List.all_cons, List.any_cons, List.any_cons]
    cases sm
    · rw [if_neg (by decide)]
      cases ab
      · rw [if_neg (by decide)]
        cases be
        · rw [if_neg (by decide), ih _ _ _ _ _ (by omega)]; simp
        · rw [if_pos rfl, ih _ _ _ _ _ (by omega)]; simp
      · rw [if_pos rfl]
        cases be
        · rw [if_neg (by decide), ih _ _ _ _ _ (by omega)]; simp
        · rw [if_pos rfl, ih _ _ _ _ _ (by omega)]; simp
    · rw [if_pos rfl, if_pos (by omega)]
      cases ab
      · rw [if_neg (by decide)]
        cases be
        · rw [if_neg (by decide), ih _ _ _ _ _ (by omega)]; simp
        · rw [if_pos rfl, ih _ _ _ _ _ (by omega)]; simp
      · rw [if_pos rfl]
        cases be
        · rw [if_neg (by decide), ih _ _ _ _ _ (by omega)]; simp
        · rw [if_pos rfl, ih _ _ _ _ _ (by omega)]; simp
theorem same_iff (l : List Int) (hl : lim l) (h : l.length ≤ 1000) : (MayP (l.length : Int) (S1 l) (S2 l) ∧ S1 l * S1 l = (l.length : Int) * S2 l) ↔ l.all (· == rd l 0) = true := by
  cases l with
  | nil => simp [S1, S2, MayP]
  | cons x m =>
    have hz := D_zero x m
    unfold D at hz
    have hr : rd (x :: m) 0 = x := rfl
    rw [hr, List.all_cons, beq_self_eq_true, Bool.true_and, List.all_eq_true]
    constructor
    · intro h1 y hy
      exact beq_iff_eq.2 (hz.1 (by omega) y hy)
    · intro h1
      have := hz.2 fun y hy => beq_iff_eq.1 (h1 y hy)
      exact ⟨of_may _ hl h, by omega⟩
theorem sum_lt (l : List Int) (q : Int) (h : ∀ x ∈ l, x < q) : S1 l ≤ (l.length : Int) * (q - 1) := by
  induction l with
  | nil => simp [S1]
  | cons x l ih =>
    have h1 := h x List.mem_cons_self
    have h2 := ih fun y hy => h y (List.mem_cons_of_mem _ hy)
    rw [S1, List.length_cons, Int.natCast_add, Int.add_mul]; simp; omega
theorem sum_gt (l : List Int) (q : Int) (h : ∀ x ∈ l, q < x) : (l.length : Int) * (q + 1) ≤ S1 l := by
  induction l with
  | nil => simp [S1]
  | cons x l ih =>
    have h1 := h x List.mem_cons_self
    have h2 := ih fun y hy => h y (List.mem_cons_of_mem _ hy)
    rw [S1, List.length_cons, Int.natCast_add, Int.add_mul]; simp; omega
theorem above_f (l : List Int) (hn : 0 < l.length) : l.any (fun t => decide (t ≥ S1 l / (l.length : Int))) = true := by
  rw [List.any_eq_true]
  apply Classical.byContradiction
  intro h
  have h1 : ∀ x ∈ l, x < S1 l / (l.length : Int) := by
    intro x hx
    apply Classical.byContradiction
    intro h2
    exact h ⟨x, hx, decide_eq_true (by omega)⟩
  have h2 := sum_lt l _ h1
  have h3 := Int.mul_ediv_add_emod (S1 l) (l.length : Int)
  have h4 := Int.emod_nonneg (S1 l) (b := (l.length : Int)) (by omega)
  rw [Int.mul_sub, Int.mul_one] at h2
  omega
theorem below_f (l : List Int) (hn : 0 < l.length) : l.any (fun t => decide (t ≤ S1 l / (l.length : Int))) = true := by
  rw [List.any_eq_true]
  apply Classical.byContradiction
  intro h
  have h1 : ∀ x ∈ l, S1 l / (l.length : Int) < x := by
    intro x hx
    apply Classical.byContradiction
    intro h2
    exact h ⟨x, hx, decide_eq_true (by omega)⟩
  have h2 := sum_gt l _ h1
  have h3 := Int.mul_ediv_add_emod (S1 l) (l.length : Int)
  have h4 := Int.emod_lt_of_pos (S1 l) (b := (l.length : Int)) (by omega)
  rw [Int.mul_add, Int.mul_one] at h2
  omega
theorem law_f (l : List Int) (hl : lim l) (h200 : l.length ≤ 200) (k : Nat) (hk : 1000 ≤ k) : hornbeamlaw15_SpreadMay.f k l = some true := by
  have hm := of_may l hl (by omega)
  have b1 := S1_bound hl; have b2 := S2_bound hl
  have hc : InI (l.length : Int) := by unfold InI; omega
  have hs : InI (S1 l) := by unfold InI; omega
  have hq : InI (S2 l) := by unfold InI; omega
  unfold hornbeamlaw15_SpreadMay.f
  rw [limited_f l (by omega) k (by omega), Option.bind_some, decide_eq_true ⟨hl, by omega⟩, if_pos rfl, of_f l hl (by omega) k (by omega), Option.bind_some, mean_f k (by omega) hc hs hq, Option.bind_some]
  obtain ⟨k, rfl⟩ : ∃ m, k = m + 11 + 1 + l.length := ⟨k - 12 - l.length, by omega⟩
  have hloop := fun q ok => loop_f l (by omega) q ok (l.length : Int) (S1 l) (S2 l) l.length (k + 11 + 1) 0 true false false (by omega)
  rw [List.drop_zero] at hloop
  refine (hloop _ _).trans ?_
  rw [hornbeamlaw15_SpreadMay.l0, if_neg (by omega), fixed_f _ (by omega), Option.bind_some, if_pos rfl, may_f _ (by omega) hc hs hq, Option.bind_some, decide_eq_true hm, if_pos rfl, pure_f _ (by omega) hc hs hq, Option.bind_some, Bool.true_and, Bool.false_or, Bool.false_or]
  have e1 : decide (MayP (l.length : Int) (S1 l) (S2 l) ∧ S1 l * S1 l = (l.length : Int) * S2 l) = l.all (· == rd l 0) := by
    rw [Bool.eq_iff_iff, decide_eq_true_eq]; exact same_iff l hl (by omega)
  rw [e1, beq_self_eq_true, if_pos rfl]
  by_cases h0 : 0 < (l.length : Int)
  · rw [if_pos (show 0 < (l.length : Int) ∧ MayP (l.length : Int) (S1 l) (S2 l) from ⟨h0, hm⟩), if_pos (by simpa using h0), if_pos rfl, above_f l (by omega), if_pos rfl, below_f l (by omega)]
  · rw [if_neg (show ¬ (0 < (l.length : Int) ∧ MayP (l.length : Int) (S1 l) (S2 l)) from fun h => h0 h.1), if_pos (by simpa using h0), if_neg (by decide)]
theorem law_g (l : List Int) (h : ¬ (lim l ∧ (l.length : Int) ≤ 200)) (hl : l.length ≤ 17592186044416) (k : Nat) (hk : l.length < k) (hk2 : 10 ≤ k) : hornbeamlaw15_SpreadMay.f k l = some true := by
  unfold hornbeamlaw15_SpreadMay.f
  rw [limited_f l hl k hk, Option.bind_some, decide_eq_false h, if_neg (by decide), fixed_f k hk2]
  rfl
end SpreadMay0
open SpreadMay0
theorem SpreadMay : hornbeamlaw15_SpreadMay.Pure := by
  intro l _ h8 _
  obtain ⟨k, hk⟩ : ∃ k : Nat, l.length + 1000 < k := ⟨l.length + 1001, by omega⟩
  refine ⟨k, ?_⟩
  by_cases h : lim l ∧ (l.length : Int) ≤ 200
  · exact law_f l h.1 (by omega) k (by omega)
  · exact law_g l h (by omega) k (by omega) (by omega)

end Go.Proofs.Ytoonddgldmfleaa.Pure
