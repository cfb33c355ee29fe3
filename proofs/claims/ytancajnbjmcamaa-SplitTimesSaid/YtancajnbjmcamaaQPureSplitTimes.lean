/- The law SplitTimes answers true. No condition. -/
import Derived.Test.YtancajnbjmcamaaQSplitTimesx8
import Derived.Test.YtancajnbjmcamaaP64
import Derived.Test.YtancajnbjmcamaaSums
import Derived.Test.YtancajnbjmcamaaDig
namespace Go.Proofs.Ytancajnbjmcamaa.Pure
open Go.RowKit Go.Proofs.Ytancajnbjmcamaa.QSplitTimes Go.Proofs.YtancajnbjmcamaaW.PrintWords Go.Proofs.YtancajnbjmcamaaW.PrintLast
open Go.Proofs.Ytancajnbjmcamaa.P64 Go.Proofs.Ytancajnbjmcamaa.Sums
namespace SplitTimes0
namespace Gi
theorem mul_f (a b : Int) : prod_Mul.f a b = some (mul64 a b) := rfl
theorem mul_eq {a b : Int} (a0 : 0 ≤ a) (a1 : a < 18446744073709551616) (b0 : 0 ≤ b) (b1 : b < 18446744073709551616) :
    prod_Mul.f a b = some (a * b / 18446744073709551616, a * b % 18446744073709551616) := by rw [mul_f, mul64_eq a0 a1 b0 b1]
theorem add64_f {a b c : Int} (a0 : 0 ≤ a) (b0 : 0 ≤ b) (c0 : 0 ≤ c) (c1 : c ≤ 1) : bits_Add64.f a b c = some ((a + b + c) % 18446744073709551616, (a + b + c) / 18446744073709551616) := by
  unfold bits_Add64.f
  rw [if_pos ⟨a0, b0, c0, c1⟩]
theorem add_f {a b c d : Int} (a0 : 0 ≤ a) (a1 : a < 18446744073709551616) (b0 : 0 ≤ b) (b1 : b < 18446744073709551616) (c0 : 0 ≤ c) (c1 : c < 18446744073709551616) (d0 : 0 ≤ d) (d1 : d < 18446744073709551616) :
    prod_Add.f a b c d = some (wideSum (a * 18446744073709551616 + b + (c * 18446744073709551616 + d))) := by
  unfold prod_Add.f
  rw [add64_f b0 d0 (by omega) (by omega), Option.bind_some, add64_f a0 c0 (by omega) (by omega), Option.bind_some]
  unfold wideSum
  have e1 : (b + d + 0) / 18446744073709551616 = (b + d) / 18446744073709551616 := by rw [Int.add_zero]
  have e2 : (a * 18446744073709551616 + b + (c * 18446744073709551616 + d)) / 18446744073709551616 = a + c + (b + d) / 18446744073709551616 := by omega
  have e3 : (a * 18446744073709551616 + b + (c * 18446744073709551616 + d)) % 18446744073709551616 = (b + d) % 18446744073709551616 := by omega
  rw [e1, e2, e3, Int.add_zero]
  by_cases h : (a + c + (b + d) / 18446744073709551616) / 18446744073709551616 = 0
  · rw [if_pos h, if_pos (by omega), Int.emod_eq_of_lt (a := a + c + (b + d) / 18446744073709551616) (by omega) (by omega)]
  · rw [if_neg h, if_neg (by omega)]
def MayG (l : List Int) : Prop := 2 ≤ l.length ∧ l.length ≤ 256 ∧ (∀ x ∈ l, 0 ≤ x) ∧ S1 l ≤ 1048576
instance (l : List Int) : Decidable (MayG l) := by unfold MayG; exact inferInstance
theorem S1_nonneg {l : List Int} (h : ∀ x ∈ l, 0 ≤ x) : 0 ≤ S1 l := by
  induction l with
  | nil => exact Int.le_refl _
  | cons x l ih =>
    have h1 := h x List.mem_cons_self
    have h2 := ih fun y hy => h y (List.mem_cons_of_mem _ hy)
    rw [S1]; omega
theorem rd_nat (l : List Int) (i : Nat) : rd l (i : Int) = l.getD i 0 := rfl
theorem may_l (l : List Int) (hl : l.length ≤ 256) (d : Nat) : ∀ (k i : Nat) (s : Int), i + d = l.length → d < k → 0 ≤ s → s ≤ 1048576 * (i : Int) →
    gini_May.l0 k s l (l.length : Int) (i : Int) = some (decide ((∀ x ∈ l.drop i, 0 ≤ x) ∧ s + S1 (l.drop i) ≤ 1048576)) ∨ (gini_May.l0 k s l (l.length : Int) (i : Int) = some false ∧ ¬ ((∀ x ∈ l.drop i, 0 ≤ x) ∧ s + S1 (l.drop i) ≤ 1048576)) := by
  induction d with
  | zero =>
    intro k i s hi hk s0 s1
    obtain ⟨k, rfl⟩ : ∃ m, k = m + 1 := ⟨k - 1, by omega⟩
    left
    rw [gini_May.l0, if_neg (by omega), List.drop_eq_nil_of_le (by omega)]
    congr 1
    rw [decide_eq_decide, S1]
    exact ⟨fun h => ⟨(fun x hx => by cases hx), by omega⟩, fun h => by omega⟩
  | succ d ih =>
    intro k i s hi hk s0 s1
    obtain ⟨k, rfl⟩ : ∃ m, k = m + 1 := ⟨k - 1, by omega⟩
    have hlt : i < l.length := by omega
    have e : l.getD i 0 = l[i] := by simp [List.getD, hlt]
    rw [gini_May.l0, if_pos (by omega), if_pos (by omega), if_pos (by omega), rd_nat, e, List.drop_eq_getElem_cons hlt, show wrap64 ((i : Int) + 1) = ((i + 1 : Nat) : Int) by unfold wrap64; omega]
    by_cases h1 : l[i] < 0
    · rw [if_pos h1]
      exact .inr ⟨rfl, fun h => by have := h.1 l[i] List.mem_cons_self; omega⟩
    · rw [if_neg h1]
      by_cases h2 : l[i] > 1048576
      · rw [if_pos h2]
        refine .inr ⟨rfl, fun h => ?_⟩
        have := S1_nonneg (l := l.drop (i + 1)) fun y hy => h.1 y (List.mem_cons_of_mem _ hy)
        have h3 := h.2
        rw [S1] at h3
        omega
      · rw [if_neg h2, wrap64_id (n := s + l[i]) (by omega) (by omega)]
        have := ih k (i + 1) (s + l[i]) (by omega) (by omega) (by omega) (by omega)
        have hiff : ((∀ x ∈ l[i] :: l.drop (i + 1), 0 ≤ x) ∧ s + S1 (l[i] :: l.drop (i + 1)) ≤ 1048576) ↔ ((∀ x ∈ l.drop (i + 1), 0 ≤ x) ∧ s + l[i] + S1 (l.drop (i + 1)) ≤ 1048576) := by
          rw [S1]
          constructor
          · intro h; exact ⟨fun y hy => h.1 y (List.mem_cons_of_mem _ hy), by omega⟩
          · intro h
            refine ⟨fun y hy => ?_, by omega⟩
            rcases List.mem_cons.1 hy with rfl | hy
            · omega
            · exact h.1 y hy
        rw [decide_eq_decide.2 hiff, hiff]
        exact this
theorem may_f (l : List Int) (k : Nat) (hk : 300 ≤ k) : gini_May.f k l = some (decide (MayG l)) := by
  obtain ⟨k, rfl⟩ : ∃ m, k = m + 1 := ⟨k - 1, by omega⟩
  have jt : gini_May.j0 (k + 1) l true = some false := by rw [gini_May.j0, if_pos rfl]
  unfold gini_May.f
  by_cases h1 : (l.length : Int) < 2
  · rw [if_pos h1, jt, decide_eq_false (fun h => by have := h.1; omega)]
  · rw [if_neg h1]
    by_cases h2 : (l.length : Int) > 256
    · rw [decide_eq_true h2, jt, decide_eq_false (fun h => by have := h.2.1; omega)]
    · rw [decide_eq_false h2, gini_May.j0, if_neg (by decide)]
      have hm : MayG l ↔ ((∀ x ∈ l.drop 0, 0 ≤ x) ∧ 0 + S1 (l.drop 0) ≤ 1048576) := by
        unfold MayG
        rw [List.drop_zero, Int.zero_add]
        exact ⟨fun h => h.2.2, fun h => ⟨by omega, by omega, h⟩⟩
      rcases may_l l (by omega) l.length k 0 0 (by omega) (by omega) (by omega) (by omega) with h | h
      · refine (show gini_May.l0 k 0 l (l.length : Int) 0 = _ from h).trans ?_
        rw [decide_eq_decide.2 hm]
      · refine (show gini_May.l0 k 0 l (l.length : Int) 0 = _ from h.1).trans ?_
        rw [decide_eq_false (fun h2 => h.2 (hm.1 h2))]
theorem total_s (l : List Int) (h : ∀ x ∈ l, 0 ≤ x) : ∀ s : Int, 0 ≤ s → s + S1 l ≤ 4294967296 → l.foldl (fun acc x => IntKind.u64.wrap (acc + gini_total.g (IntKind.u64.wrap x))) s = s + S1 l := by
  induction l with
  | nil => intro s _ _; simp [S1]
  | cons x l ih =>
    intro s s0 s1
    have h1 := h x List.mem_cons_self
    have h2 := S1_nonneg (l := l) fun y hy => h y (List.mem_cons_of_mem _ hy)
    rw [S1] at s1
    rw [List.foldl_cons, uwrap_id (n := x) h1 (by omega)]
    unfold gini_total.g
    rw [uwrap_id (n := s + x) (by omega) (by omega)]
    have := ih (fun y hy => h y (List.mem_cons_of_mem _ hy)) (s + x) (by omega) (by omega)
    unfold gini_total.g at this
    rw [this, S1]; omega
theorem total_f {l : List Int} (h : MayG l) : gini_total.f l = some (S1 l) := by
  unfold gini_total.f gini_total.s
  rw [if_pos (by have := h.2.1; omega), total_s l h.2.2.1 0 (by omega) (by have := h.2.2.2; omega), Int.zero_add]
theorem S2_le {l : List Int} (h : ∀ x ∈ l, 0 ≤ x) : 0 ≤ S2 l ∧ S2 l ≤ S1 l * S1 l := by
  induction l with
  | nil => simp [S1, S2]
  | cons x l ih =>
    have h1 := h x List.mem_cons_self
    have hl := fun y hy => h y (List.mem_cons_of_mem _ hy)
    have h2 := ih hl
    have h3 := S1_nonneg hl
    have h4 := Int.mul_nonneg h1 h1
    have h5 := Int.mul_nonneg h1 h3
    have e : (x + S1 l) * (x + S1 l) = x * x + 2 * (x * S1 l) + S1 l * S1 l := by rw [Int.add_mul, Int.mul_add, Int.mul_add, Int.mul_comm (S1 l) x]; omega
    rw [S1, S2, e]; omega
theorem squares_s (l : List Int) (h : ∀ x ∈ l, 0 ≤ x) (hs : S1 l ≤ 1048576) : ∀ s : Int, 0 ≤ s → s + S2 l ≤ 1099511627776 → l.foldl (fun acc x => IntKind.u64.wrap (acc + gini_squares.g (IntKind.u64.wrap x))) s = s + S2 l := by
  induction l with
  | nil => intro s _ _; simp [S2]
  | cons x l ih =>
    intro s s0 s1
    have h1 := h x List.mem_cons_self
    have hl := fun y hy => h y (List.mem_cons_of_mem _ hy)
    have h2 := S1_nonneg (l := l) hl
    have h3 := S2_le (l := l) hl
    have h4 := Int.mul_nonneg h1 h1
    rw [S1] at hs
    rw [S2] at s1
    rw [List.foldl_cons, uwrap_id (n := x) h1 (by omega)]
    unfold gini_squares.g
    rw [uwrap_id (n := x * x) h4 (by omega), uwrap_id (n := s + x * x) (by omega) (by omega)]
    have := ih hl (by omega) (s + x * x) (by omega) (by omega)
    unfold gini_squares.g at this
    rw [this, S2]; omega
theorem S2_small {l : List Int} (h : MayG l) : 0 ≤ S2 l ∧ S2 l ≤ 1099511627776 := by
  have h1 := S2_le h.2.2.1
  have h2 := S1_nonneg h.2.2.1
  have h3 := h.2.2.2
  have h4 := Int.mul_le_mul (a := S1 l) (b := S1 l) (c := 1048576) (d := 1048576) h3 h3 h2 (by omega)
  omega
theorem squares_f {l : List Int} (h : MayG l) : gini_squares.f l = some (S2 l) := by
  have := S2_small h
  unfold gini_squares.f gini_squares.s
  rw [if_pos (by have := h.2.1; omega), squares_s l h.2.2.1 h.2.2.2 0 (by omega) (by omega), Int.zero_add]
/-- How well counts are apart. -/
def aloneD (l : List Int) : Int × Int × Int := if MayG l ∧ S1 l ≠ 0 then (0, S2 l, S1 l) else (0, 0, 0)
theorem alone_f (l : List Int) (k : Nat) (hk : 301 ≤ k) : gini_Alone.f k l = some (aloneD l) := by
  obtain ⟨k, rfl⟩ : ∃ m, k = m + 1 := ⟨k - 1, by omega⟩
  have jt : gini_Alone.j0 (k + 1) l true = some (0, 0, 0) := by rw [gini_Alone.j0, if_pos rfl]
  unfold gini_Alone.f aloneD
  rw [may_f l _ (by omega), Option.bind_some]
  by_cases h : MayG l
  · rw [decide_eq_true h, if_pos rfl, total_f h, Option.bind_some]
    by_cases h0 : S1 l = 0
    · rw [show (S1 l == 0) = true from beq_iff_eq.2 h0, jt, if_neg (show ¬ (MayG l ∧ S1 l ≠ 0) from fun h2 => h2.2 h0)]
    · rw [show (S1 l == 0) = false from beq_eq_false_iff_ne.2 h0, gini_Alone.j0, if_neg (by decide), squares_f h, Option.bind_some, total_f h, Option.bind_some, if_pos (show MayG l ∧ S1 l ≠ 0 from ⟨h, h0⟩)]
  · rw [decide_eq_false h, if_neg (by decide), jt, if_neg (show ¬ (MayG l ∧ S1 l ≠ 0) from fun h2 => h h2.1)]
/-- May these two be sides, both with targets? -/
def Sides (a b : List Int) : Prop := MayG a ∧ MayG b ∧ a.length = b.length ∧ S1 a ≠ 0 ∧ S1 b ≠ 0
instance (a b : List Int) : Decidable (Sides a b) := by unfold Sides; exact inferInstance
/-- The upper number of two sides. -/
def upper (a b : List Int) : Int := S2 a * S1 b + S2 b * S1 a
def scoreD (a b : List Int) : Int × Int × Int := if Sides a b then (upper a b / 18446744073709551616, upper a b % 18446744073709551616, S1 a * S1 b) else (0, 0, 0)
theorem upper_bound {a b : List Int} (h : Sides a b) : (0 ≤ S2 a * S1 b ∧ S2 a * S1 b ≤ 1099511627776 * 1048576) ∧ (0 ≤ S2 b * S1 a ∧ S2 b * S1 a ≤ 1099511627776 * 1048576) ∧ (0 ≤ S1 a * S1 b ∧ S1 a * S1 b ≤ 1048576 * 1048576) := by
  obtain ⟨ha, hb, _, _, _⟩ := h
  have a1 := S2_small ha; have b1 := S2_small hb
  have a2 := S1_nonneg ha.2.2.1; have b2 := S1_nonneg hb.2.2.1
  have a3 := ha.2.2.2; have b3 := hb.2.2.2
  exact ⟨⟨Int.mul_nonneg a1.1 b2, Int.mul_le_mul a1.2 b3 b2 (by omega)⟩, ⟨Int.mul_nonneg b1.1 a2, Int.mul_le_mul b1.2 a3 a2 (by omega)⟩, ⟨Int.mul_nonneg a2 b2, Int.mul_le_mul a3 b3 b2 (by omega)⟩⟩
theorem score_f (a b : List Int) (k : Nat) (hk : 301 ≤ k) : gini_Score.f k a b = some (scoreD a b) := by
  obtain ⟨k, rfl⟩ : ∃ m, k = m + 1 := ⟨k - 1, by omega⟩
  have jt : gini_Score.j0 (k + 1) a b true = some (0, 0, 0) := by rw [gini_Score.j0, if_pos rfl]
  have no : ∀ h : ¬ Sides a b, some (0, 0, 0) = some (scoreD a b) := fun h => by unfold scoreD; rw [if_neg h]
  unfold gini_Score.f
  rw [may_f a _ (by omega), Option.bind_some]
  by_cases ha : MayG a
  · rw [decide_eq_true ha, if_pos rfl, may_f b _ (by omega), Option.bind_some]
    by_cases hb : MayG b
    · rw [decide_eq_true hb, if_pos rfl]
      by_cases hl : (a.length : Int) = (b.length : Int)
      · rw [if_pos hl, total_f ha, Option.bind_some]
        by_cases h1 : S1 a = 0
        · rw [if_pos h1, jt]; exact no (fun h => h.2.2.2.1 h1)
        · rw [if_neg h1, total_f hb, Option.bind_some]
          by_cases h2 : S1 b = 0
          · rw [show (S1 b == 0) = true from beq_iff_eq.2 h2, jt]; exact no (fun h => h.2.2.2.2 h2)
          · have hs : Sides a b := ⟨ha, hb, by omega, h1, h2⟩
            have a1 := S2_small ha; have b1 := S2_small hb
            have a2 := S1_nonneg ha.2.2.1; have b2 := S1_nonneg hb.2.2.1
            have a3 := ha.2.2.2; have b3 := hb.2.2.2
            obtain ⟨u1, u2, u3⟩ := upper_bound hs
            rw [show (S1 b == 0) = false from beq_eq_false_iff_ne.2 h2, gini_Score.j0, if_neg (by decide), total_f ha, Option.bind_some, total_f hb, Option.bind_some, squares_f ha, Option.bind_some, mul_eq (by omega) (by omega) (by omega) (by omega), Option.bind_some,
              squares_f hb, Option.bind_some, mul_eq (by omega) (by omega) (by omega) (by omega), Option.bind_some, add_f (by omega) (by omega) (by omega) (by omega) (by omega) (by omega) (by omega) (by omega), Option.bind_some, uwrap_id (n := S1 a * S1 b) (by omega) (by omega)]
            have e : S2 a * S1 b / 18446744073709551616 * 18446744073709551616 + S2 a * S1 b % 18446744073709551616 + (S2 b * S1 a / 18446744073709551616 * 18446744073709551616 + S2 b * S1 a % 18446744073709551616) = upper a b := by unfold upper; omega
            rw [e]
            unfold wideSum scoreD
            rw [if_pos (show upper a b < 340282366920938463463374607431768211456 by unfold upper; omega), if_pos hs]
      · rw [if_neg hl, jt]; exact no (fun h => hl (by rw [h.2.2.1]))
    · rw [decide_eq_false hb, if_neg (by decide), jt]; exact no (fun h => hb h.2.1)
  · rw [decide_eq_false ha, if_neg (by decide), jt]; exact no (fun h => ha h.1)
end Gi
namespace Sp
theorem compare_f (a b : Int) : cmp_Compare_uint64.f a b = some (cmpI a b) := by
  unfold cmp_Compare_uint64.f cmp_isNaN_uint64.f cmpI
  rw [Option.bind_some, Option.bind_some, if_neg (by simp), if_neg (by simp)]
  split
  · rfl
  · split <;> rfl
theorem or_f (k : Nat) (hk : 3 ≤ k) (a b : Int) : cmp_Or_int.f k [a, b] = some (if a = 0 then b else a) := by
  obtain ⟨k, rfl⟩ : ∃ m, k = m + 3 := ⟨k - 3, by omega⟩
  unfold cmp_Or_int.f
  rw [cmp_Or_int.l0, if_pos (by simp), if_pos (by omega), if_pos (by simp)]
  rw [show rd [a, b] 0 = a from rfl, show wrap64 (0 + 1) = 1 by unfold wrap64; omega]
  by_cases ha : a = 0
  · rw [if_pos ha, cmp_Or_int.l0, if_pos (by simp), if_pos (by omega), if_pos (by simp), show rd [a, b] 1 = b from rfl, show wrap64 (1 + 1) = 2 by unfold wrap64; omega, if_pos ha]
    by_cases hb : b = 0
    · rw [if_pos hb, cmp_Or_int.l0, if_neg (by simp), hb]
    · rw [if_neg hb]
  · rw [if_neg ha, if_neg ha]
theorem cmp_f (k : Nat) (hk : 3 ≤ k) (X Y : Int) : prod_Cmp.f k (X / 18446744073709551616) (X % 18446744073709551616) (Y / 18446744073709551616) (Y % 18446744073709551616) = some (cmpI X Y) := by
  unfold prod_Cmp.f
  rw [compare_f, Option.bind_some, compare_f, Option.bind_some, or_f k hk, Option.bind_some]
  congr 1
  unfold cmpI
  by_cases h1 : X / 18446744073709551616 < Y / 18446744073709551616
  · rw [if_pos h1, if_neg (by decide), if_pos (by omega)]
  · rw [if_neg h1]
    by_cases h2 : Y / 18446744073709551616 < X / 18446744073709551616
    · rw [if_pos h2, if_neg (by decide), if_neg (by omega), if_pos (by omega)]
    · rw [if_neg h2, if_pos rfl]
      by_cases h3 : X % 18446744073709551616 < Y % 18446744073709551616
      · rw [if_pos h3, if_pos (by omega)]
      · rw [if_neg h3, if_neg (show ¬ X < Y by omega)]
        by_cases h4 : Y % 18446744073709551616 < X % 18446744073709551616
        · rw [if_pos h4, if_pos (by omega)]
        · rw [if_neg h4, if_neg (by omega)]
theorem size_f (a : Int) : prod_size.f a = some (sizeI a) := by unfold prod_size.f sizeI; split <;> rfl
theorem mul_f (a b : Int) : prod_Mul.f a b = some (mul64 a b) := rfl
/-- A wide number's words. -/
def wideD (X : Int) : Int × Int := (X / 18446744073709551616, X % 18446744073709551616)
theorem square_f {a : Int} (a0 : -9223372036854775808 ≤ a) (a1 : a ≤ 9223372036854775807) : prod_Square.f a = some (wideD (a * a)) := by
  unfold prod_Square.f wideD
  rw [size_f, Option.bind_some, Option.bind_some, mul_f, Option.bind_some, sizeI_eq a0 a1, mul64_eq (by omega) (by omega) (by omega) (by omega), Int.natAbs_mul_self']
/-- May these be a moment's numbers? -/
def MayP (c s q : Int) : Prop := (c = 0 ∧ s = 0 ∧ q = 0) ∨ (1 ≤ c ∧ c ≤ 1048576 ∧ 0 ≤ q ∧ q ≤ 1099511627776 * c ∧ -(1048576 * c) ≤ s ∧ s ≤ 1048576 * c ∧ s * s ≤ c * q)
instance (c s q : Int) : Decidable (MayP c s q) := by unfold MayP; exact inferInstance
def InI (n : Int) : Prop := -9223372036854775808 ≤ n ∧ n ≤ 9223372036854775807
theorem bound_f {c s q : Int} (c0 : 0 ≤ c) (c1 : c ≤ 9223372036854775807) (q0 : 0 ≤ q) (q1 : q ≤ 9223372036854775807) : spread_bound.f c s q = some (wideD (c * q)) := by
  unfold spread_bound.f wideD
  rw [uwrap_id c0 (by omega), uwrap_id q0 (by omega), mul_f, Option.bind_some, mul64_eq (by omega) (by omega) (by omega) (by omega)]
theorem may_f (k : Nat) (hk : 10 ≤ k) {c s q : Int} (hc : InI c) (hs : InI s) (hq : InI q) : spread_May.f k c s q = some (decide (MayP c s q)) := by
  unfold InI at hc hs hq
  obtain ⟨k, rfl⟩ : ∃ m, k = m + 5 := ⟨k - 5, by omega⟩
  unfold spread_May.f spread_none.f
  rw [Option.bind_some]
  by_cases h0 : c = 0 ∧ s = 0 ∧ q = 0
  · obtain ⟨rfl, rfl, rfl⟩ := h0
    rw [if_pos (by decide), decide_eq_true (show MayP 0 0 0 from .inl ⟨rfl, rfl, rfl⟩)]
  · rw [if_neg (by simpa using h0)]
    have jt : ∀ m, spread_May.j0 (m + 1) true c s q = some false := fun m => by rw [spread_May.j0, if_pos rfl]
    by_cases h1 : c < 1
    · rw [if_pos h1, jt, decide_eq_false]
      rintro (h | h)
      · exact h0 h
      · omega
    · rw [if_neg h1]
      by_cases h2 : c > 1048576
      · rw [if_pos h2, jt, decide_eq_false]
        rintro (h | h)
        · exact h0 h
        · omega
      · rw [if_neg h2]
        by_cases h3 : q < 0
        · rw [if_pos h3, jt, decide_eq_false]
          rintro (h | h)
          · exact h0 h
          · omega
        · rw [if_neg h3, wrap64_id (n := 1099511627776 * c) (by omega) (by omega)]
          by_cases h4 : q > 1099511627776 * c
          · rw [decide_eq_true h4, jt, decide_eq_false]
            rintro (h | h)
            · exact h0 h
            · omega
          · rw [decide_eq_false h4, spread_May.j0, if_neg (by decide), wrap64_id (n := 1048576 * c) (by omega) (by omega), wrap64_id (n := -1048576 * c) (by omega) (by omega)]
            have jt2 : ∀ m, spread_May.j1 (m + 1) true c s q = some false := fun m => by rw [spread_May.j1, if_pos rfl]
            by_cases h5 : s > 1048576 * c
            · rw [if_pos h5, jt2, decide_eq_false]
              rintro (h | h)
              · exact h0 h
              · omega
            · rw [if_neg h5]
              by_cases h6 : s < -1048576 * c
              · rw [decide_eq_true h6, jt2, decide_eq_false]
                rintro (h | h)
                · exact h0 h
                · omega
              · rw [decide_eq_false h6, spread_May.j1, if_neg (by decide), square_f hs.1 hs.2, Option.bind_some, bound_f (by omega) (by omega) (by omega) (by omega), Option.bind_some]
                unfold wideD
                rw [cmp_f _ (by omega), Option.bind_some]
                congr 1
                rw [decide_eq_decide]
                unfold cmpI MayP
                constructor
                · intro h
                  refine .inr ⟨by omega, by omega, by omega, by omega, by omega, by omega, ?_⟩
                  by_cases h7 : s * s < c * q
                  · omega
                  · rw [if_neg h7] at h
                    by_cases h8 : c * q < s * s
                    · rw [if_pos h8] at h; omega
                    · omega
                · rintro (h | ⟨_, _, _, _, _, _, h⟩)
                  · exact absurd h h0
                  · split
                    · omega
                    · rw [if_neg (by omega)]; omega
theorem there_f (k : Nat) (hk : 10 ≤ k) {c s q : Int} (hc : InI c) (hs : InI s) (hq : InI q) : spread_there.f k c s q = some (decide (0 < c ∧ MayP c s q)) := by
  unfold spread_there.f
  by_cases h : c > 0
  · rw [if_pos h, may_f k hk hc hs hq, Option.bind_some]
    congr 1
    rw [decide_eq_decide]
    exact ⟨fun h1 => ⟨h, h1⟩, fun h1 => h1.2⟩
  · rw [if_neg h, decide_eq_false (fun h1 => h h1.1)]
theorem alone_f (k : Nat) (hk : 10 ≤ k) {c s q : Int} (hc : InI c) (hs : InI s) (hq : InI q) : spread_Alone.f k c s q = some (if 0 < c ∧ MayP c s q then ((wideD (s * s)).1, (wideD (s * s)).2, c) else (0, 0, 0)) := by
  unfold spread_Alone.f
  rw [there_f k hk hc hs hq, Option.bind_some]
  by_cases h : 0 < c ∧ MayP c s q
  · unfold InI at hc hs
    rw [decide_eq_true h, if_pos rfl, if_pos h, square_f hs.1 hs.2, Option.bind_some, uwrap_id (by omega) (by omega)]
  · rw [decide_eq_false h, if_neg (by decide), if_neg h]
theorem add64_f {a b c : Int} (a0 : 0 ≤ a) (b0 : 0 ≤ b) (c0 : 0 ≤ c) (c1 : c ≤ 1) : bits_Add64.f a b c = some ((a + b + c) % 18446744073709551616, (a + b + c) / 18446744073709551616) := by
  unfold bits_Add64.f
  rw [if_pos ⟨a0, b0, c0, c1⟩]
theorem times_f {h l n : Int} (h0 : 0 ≤ h) (h1 : h < 18446744073709551616) (l0 : 0 ≤ l) (l1 : l < 18446744073709551616) (n0 : 0 ≤ n) (n1 : n < 18446744073709551616) :
    prod_Times.f h l n = some (longD ((h * 18446744073709551616 + l) * n)) := by
  unfold prod_Times.f
  rw [show bits_Mul64.f l n = some (mul64 l n) from rfl, show bits_Mul64.f h n = some (mul64 h n) from rfl, Option.bind_some, Option.bind_some, mul64_eq l0 l1 n0 n1, mul64_eq h0 h1 n0 n1]
  have p1 := mul_bound64 l0 l1 n0 n1
  have p2 := mul_bound64 h0 h1 n0 n1
  have e : (h * 18446744073709551616 + l) * n = (h * n) * 18446744073709551616 + l * n := by rw [Int.add_mul, Int.mul_right_comm]
  rw [e]
  unfold longD
  generalize h * n = q at *
  generalize l * n = p at *
  rw [add64_f (by omega) (by omega) (by omega) (by omega), Option.bind_some, uwrap_id (by omega) (by omega)]
  simp only [Option.some.injEq, Prod.mk.injEq]
  omega
theorem add_f {a b c d : Int} (a0 : 0 ≤ a) (a1 : a < 18446744073709551616) (b0 : 0 ≤ b) (b1 : b < 18446744073709551616) (c0 : 0 ≤ c) (c1 : c < 18446744073709551616) (d0 : 0 ≤ d) (d1 : d < 18446744073709551616) :
    prod_Add.f a b c d = some (wideSum (a * 18446744073709551616 + b + (c * 18446744073709551616 + d))) := by
  unfold prod_Add.f
  rw [add64_f b0 d0 (by omega) (by omega), Option.bind_some, add64_f a0 c0 (by omega) (by omega), Option.bind_some]
  unfold wideSum
  have e1 : (b + d + 0) / 18446744073709551616 = (b + d) / 18446744073709551616 := by rw [Int.add_zero]
  have e2 : (a * 18446744073709551616 + b + (c * 18446744073709551616 + d)) / 18446744073709551616 = a + c + (b + d) / 18446744073709551616 := by omega
  have e3 : (a * 18446744073709551616 + b + (c * 18446744073709551616 + d)) % 18446744073709551616 = (b + d) % 18446744073709551616 := by omega
  rw [e1, e2, e3, Int.add_zero]
  by_cases h : (a + c + (b + d) / 18446744073709551616) / 18446744073709551616 = 0
  · rw [if_pos h, if_pos (by omega), Int.emod_eq_of_lt (a := a + c + (b + d) / 18446744073709551616) (by omega) (by omega)]
  · rw [if_neg h, if_neg (by omega)]
theorem there_bound {c s q : Int} (h : 0 < c ∧ MayP c s q) : c ≤ 1048576 ∧ 0 ≤ s * s ∧ s * s ≤ 1208925819614629174706176 := by
  obtain ⟨h0, h | h⟩ := h
  · omega
  · have e : s * s = (s.natAbs : Int) * s.natAbs := (Int.natAbs_mul_self' s).symm
    have := Int.mul_le_mul (a := (s.natAbs : Int)) (b := (s.natAbs : Int)) (c := 1099511627776) (d := 1099511627776) (by omega) (by omega) (by omega) (by omega)
    have := sq_nonneg' s
    omega
theorem sside_f {c s q c2 s2 q2 : Int} (hs : InI s) (h : 0 < c ∧ MayP c s q) (h2 : 0 < c2 ∧ MayP c2 s2 q2) : spread_side.f c s q c2 s2 q2 = some (wideD (s * s * c2)) := by
  have b := there_bound h; have b2 := there_bound h2
  have hb : 0 ≤ s * s * c2 ∧ s * s * c2 ≤ 1208925819614629174706176 * 1048576 := ⟨Int.mul_nonneg b.2.1 (by omega), Int.mul_le_mul b.2.2 b2.1 (by omega) (by omega)⟩
  unfold spread_side.f
  rw [square_f hs.1 hs.2, Option.bind_some, uwrap_id (by omega) (by omega)]
  unfold wideD
  rw [times_f (h := s * s / 18446744073709551616) (l := s * s % 18446744073709551616) (n := c2) (by omega) (by omega) (by omega) (by omega) (by omega) (by omega), Option.bind_some]
  have e : s * s / 18446744073709551616 * 18446744073709551616 + s * s % 18446744073709551616 = s * s := by omega
  rw [e]
  unfold longD
  rw [Int.emod_eq_of_lt (a := s * s * c2 / 18446744073709551616) (by omega) (by omega)]
theorem score_f (k : Nat) (hk : 12 ≤ k) {c s q c2 s2 q2 : Int} (hc : InI c) (hs : InI s) (hq : InI q) (hc2 : InI c2) (hs2 : InI s2) (hq2 : InI q2) :
    spread_Score.f k c s q c2 s2 q2 = some (if (0 < c ∧ MayP c s q) ∧ (0 < c2 ∧ MayP c2 s2 q2) then ((wideD (s * s * c2 + s2 * s2 * c)).1, (wideD (s * s * c2 + s2 * s2 * c)).2, c * c2) else (0, 0, 0)) := by
  obtain ⟨k, rfl⟩ : ∃ m, k = m + 1 := ⟨k - 1, by omega⟩
  have jt : spread_Score.j0 (k + 1) true c s q c2 s2 q2 = some (0, 0, 0) := by rw [spread_Score.j0, if_pos rfl]
  unfold spread_Score.f
  rw [there_f _ (by omega) hc hs hq, Option.bind_some]
  by_cases h : 0 < c ∧ MayP c s q
  · rw [decide_eq_true h, if_pos rfl, there_f _ (by omega) hc2 hs2 hq2, Option.bind_some]
    by_cases h2 : 0 < c2 ∧ MayP c2 s2 q2
    · have b := there_bound h; have b2 := there_bound h2
      have hb : 0 ≤ s * s * c2 ∧ s * s * c2 ≤ 1208925819614629174706176 * 1048576 := ⟨Int.mul_nonneg b.2.1 (by omega), Int.mul_le_mul b.2.2 b2.1 (by omega) (by omega)⟩
      have hb2 : 0 ≤ s2 * s2 * c ∧ s2 * s2 * c ≤ 1208925819614629174706176 * 1048576 := ⟨Int.mul_nonneg b2.2.1 (by omega), Int.mul_le_mul b2.2.2 b.1 (by omega) (by omega)⟩
      have hcc : 0 ≤ c * c2 ∧ c * c2 ≤ 1048576 * 1048576 := ⟨Int.mul_nonneg (by omega) (by omega), Int.mul_le_mul b.1 b2.1 (by omega) (by omega)⟩
      rw [decide_eq_true h2, Bool.not_true, spread_Score.j0, if_neg (by decide), if_pos (show (0 < c ∧ MayP c s q) ∧ (0 < c2 ∧ MayP c2 s2 q2) from ⟨h, h2⟩), sside_f hs h h2, Option.bind_some, sside_f hs2 h2 h, Option.bind_some]
      unfold wideD
      rw [add_f (a := s * s * c2 / 18446744073709551616) (b := s * s * c2 % 18446744073709551616) (c := s2 * s2 * c / 18446744073709551616) (d := s2 * s2 * c % 18446744073709551616) (by omega) (by omega) (by omega) (by omega) (by omega) (by omega) (by omega) (by omega), Option.bind_some]
      have e : s * s * c2 / 18446744073709551616 * 18446744073709551616 + s * s * c2 % 18446744073709551616 + (s2 * s2 * c / 18446744073709551616 * 18446744073709551616 + s2 * s2 * c % 18446744073709551616) = s * s * c2 + s2 * s2 * c := by omega
      rw [e]
      unfold wideSum
      rw [if_pos (by omega), uwrap_id (n := c) (by omega) (by omega), uwrap_id (n := c2) (by omega) (by omega), uwrap_id (n := c * c2) (by omega) (by omega)]
    · rw [decide_eq_false h2, Bool.not_false, jt, if_neg (show ¬ ((0 < c ∧ MayP c s q) ∧ (0 < c2 ∧ MayP c2 s2 q2)) from fun h3 => h2 h3.2)]
  · rw [decide_eq_false h, if_neg (by decide), jt, if_neg (show ¬ ((0 < c ∧ MayP c s q) ∧ (0 < c2 ∧ MayP c2 s2 q2)) from fun h3 => h h3.1)]
end Sp
namespace Fr
theorem add64_f {a b c : Int} (a0 : 0 ≤ a) (b0 : 0 ≤ b) (c0 : 0 ≤ c) (c1 : c ≤ 1) : bits_Add64.f a b c = some ((a + b + c) % 18446744073709551616, (a + b + c) / 18446744073709551616) := by
  unfold bits_Add64.f
  rw [if_pos ⟨a0, b0, c0, c1⟩]
theorem times_f {h l n : Int} (h0 : 0 ≤ h) (h1 : h < 18446744073709551616) (l0 : 0 ≤ l) (l1 : l < 18446744073709551616) (n0 : 0 ≤ n) (n1 : n < 18446744073709551616) :
    prod_Times.f h l n = some (longD ((h * 18446744073709551616 + l) * n)) := by
  unfold prod_Times.f
  rw [show bits_Mul64.f l n = some (mul64 l n) from rfl, show bits_Mul64.f h n = some (mul64 h n) from rfl, Option.bind_some, Option.bind_some, mul64_eq l0 l1 n0 n1, mul64_eq h0 h1 n0 n1]
  have p1 := mul_bound64 l0 l1 n0 n1
  have p2 := mul_bound64 h0 h1 n0 n1
  have e : (h * 18446744073709551616 + l) * n = (h * n) * 18446744073709551616 + l * n := by rw [Int.add_mul, Int.mul_right_comm]
  rw [e]
  unfold longD
  generalize h * n = q at *
  generalize l * n = p at *
  rw [add64_f (by omega) (by omega) (by omega) (by omega), Option.bind_some, uwrap_id (by omega) (by omega)]
  simp only [Option.some.injEq, Prod.mk.injEq]
  omega
theorem compare_f (a b : Int) : cmp_Compare_uint64.f a b = some (cmpI a b) := by
  unfold cmp_Compare_uint64.f cmp_isNaN_uint64.f cmpI
  rw [Option.bind_some, Option.bind_some, if_neg (by simp), if_neg (by simp)]
  split
  · rfl
  · split <;> rfl
theorem cmplong_f {X Y : Int} (_x0 : 0 ≤ X) (_y0 : 0 ≤ Y) : prod_CmpLong.f (longD X).1 (longD X).2.1 (longD X).2.2 (longD Y).1 (longD Y).2.1 (longD Y).2.2 = some (cmpI X Y) := by
  unfold prod_CmpLong.f longD
  simp only [compare_f]
  unfold cmpI
  have hx := Int.mul_ediv_add_emod X 18446744073709551616
  have hy := Int.mul_ediv_add_emod Y 18446744073709551616
  have hx2 := Int.mul_ediv_add_emod (X / 18446744073709551616) 18446744073709551616
  have hy2 := Int.mul_ediv_add_emod (Y / 18446744073709551616) 18446744073709551616
  have b1 := Int.emod_nonneg X (b := 18446744073709551616) (by decide)
  have b2 := Int.emod_lt_of_pos X (b := 18446744073709551616) (by decide)
  have b3 := Int.emod_nonneg Y (b := 18446744073709551616) (by decide)
  have b4 := Int.emod_lt_of_pos Y (b := 18446744073709551616) (by decide)
  have b5 := Int.emod_nonneg (X / 18446744073709551616) (b := 18446744073709551616) (by decide)
  have b6 := Int.emod_lt_of_pos (X / 18446744073709551616) (b := 18446744073709551616) (by decide)
  have b7 := Int.emod_nonneg (Y / 18446744073709551616) (b := 18446744073709551616) (by decide)
  have b8 := Int.emod_lt_of_pos (Y / 18446744073709551616) (b := 18446744073709551616) (by decide)
  generalize X % 18446744073709551616 = u0 at *
  generalize Y % 18446744073709551616 = v0 at *
  generalize X / 18446744073709551616 % 18446744073709551616 = u1 at *
  generalize Y / 18446744073709551616 % 18446744073709551616 = v1 at *
  generalize X / 18446744073709551616 / 18446744073709551616 = u2 at *
  generalize Y / 18446744073709551616 / 18446744073709551616 = v2 at *
  generalize X / 18446744073709551616 = p at *
  generalize Y / 18446744073709551616 = q at *
  by_cases h2 : u2 = v2
  · rw [if_pos h2]
    by_cases h1 : u1 = v1
    · rw [if_pos h1]
      by_cases h0 : u0 = v0
      · rw [if_pos h0, if_neg (by omega), if_neg (by omega)]
      · rw [if_neg h0]
        rcases Int.lt_or_gt_of_ne h0 with h | h
        · rw [if_pos h, if_pos (by omega)]
        · rw [if_neg (by omega), if_pos h, if_neg (by omega), if_pos (by omega)]
    · rw [if_neg h1]
      rcases Int.lt_or_gt_of_ne h1 with h | h
      · rw [if_pos h, if_pos (by omega)]
      · rw [if_neg (by omega), if_pos h, if_neg (by omega), if_pos (by omega)]
  · rw [if_neg h2]
    rcases Int.lt_or_gt_of_ne h2 with h | h
    · rw [if_pos h, if_pos (by omega)]
    · rw [if_neg (by omega), if_pos h, if_neg (by omega), if_pos (by omega)]
/-- How two fractions stand to one another: their upper numbers n, m, their lower ones d, e. -/
def FC (n d m e : Int) : Int := if d = 0 then (if e = 0 then 0 else -1) else if e = 0 then 1 else cmpI (n * e) (m * d)
theorem cmpI_cases (x y : Int) : (cmpI x y = -1 ∧ x < y) ∨ (cmpI x y = 0 ∧ x = y) ∨ (cmpI x y = 1 ∧ y < x) := by
  unfold cmpI
  by_cases h : x < y
  · rw [if_pos h]; exact .inl ⟨rfl, h⟩
  · rw [if_neg h]
    by_cases h2 : y < x
    · rw [if_pos h2]; exact .inr (.inr ⟨rfl, h2⟩)
    · rw [if_neg h2]; exact .inr (.inl ⟨rfl, by omega⟩)
theorem cmpI_anti (x y : Int) : cmpI y x = -cmpI x y := by
  rcases cmpI_cases x y with ⟨h, g⟩ | ⟨h, g⟩ | ⟨h, g⟩ <;> rcases cmpI_cases y x with ⟨h2, g2⟩ | ⟨h2, g2⟩ | ⟨h2, g2⟩ <;> omega
theorem FC_cases (n d m e : Int) : FC n d m e = -1 ∨ FC n d m e = 0 ∨ FC n d m e = 1 := by
  unfold FC
  split
  · split
    · exact .inr (.inl rfl)
    · exact .inl rfl
  · split
    · exact .inr (.inr rfl)
    · rcases cmpI_cases (n * e) (m * d) with h | h | h
      · exact .inl h.1
      · exact .inr (.inl h.1)
      · exact .inr (.inr h.1)
theorem FC_anti (n d m e : Int) : FC m e n d = -FC n d m e := by
  unfold FC
  by_cases hd : d = 0
  · by_cases he : e = 0
    · rw [if_pos hd, if_pos he, if_pos he, if_pos hd]; rfl
    · rw [if_neg he, if_pos hd, if_pos hd, if_neg he]; rfl
  · by_cases he : e = 0
    · rw [if_pos he, if_neg hd, if_neg hd, if_pos he]
    · rw [if_neg he, if_neg hd, if_neg hd, if_neg he, cmpI_anti]
theorem FC_refl (n d : Int) : FC n d n d = 0 := by
  have := FC_anti n d n d
  omega
theorem FC_le (n d m e : Int) (_d0 : 0 ≤ d) (e0 : 0 ≤ e) : FC n d m e ≤ 0 ↔ (d = 0 ∨ (e ≠ 0 ∧ n * e ≤ m * d)) := by
  unfold FC
  by_cases hd : d = 0
  · rw [if_pos hd]
    exact ⟨fun _ => .inl hd, fun _ => by split <;> omega⟩
  · rw [if_neg hd]
    by_cases he : e = 0
    · rw [if_pos he]
      exact ⟨fun h => absurd h (by omega), fun h => by rcases h with h | h <;> omega⟩
    · rw [if_neg he]
      rcases cmpI_cases (n * e) (m * d) with ⟨h, g⟩ | ⟨h, g⟩ | ⟨h, g⟩ <;> rw [h]
      · exact ⟨fun _ => .inr ⟨he, by omega⟩, fun _ => by omega⟩
      · exact ⟨fun _ => .inr ⟨he, by omega⟩, fun _ => by omega⟩
      · exact ⟨fun h => absurd h (by omega), fun h => by rcases h with h | h <;> omega⟩
theorem FC_chain (n d m e p f : Int) (d0 : 0 ≤ d) (e0 : 0 ≤ e) (f0 : 0 ≤ f) (h1 : FC n d m e ≤ 0) (h2 : FC m e p f ≤ 0) : FC n d p f ≤ 0 := by
  rw [FC_le _ _ _ _ d0 e0] at h1
  rw [FC_le _ _ _ _ e0 f0] at h2
  rw [FC_le _ _ _ _ d0 f0]
  rcases h1 with h1 | ⟨h1, g1⟩
  · exact .inl h1
  · rcases h2 with h2 | ⟨h2, g2⟩
    · exact absurd h2 h1
    · refine .inr ⟨h2, ?_⟩
      have a1 : n * e * f ≤ m * d * f := Int.mul_le_mul_of_nonneg_right g1 f0
      have a2 : m * f * d ≤ p * e * d := Int.mul_le_mul_of_nonneg_right g2 d0
      have a3 : m * d * f = m * f * d := by rw [Int.mul_assoc, Int.mul_comm d f, ← Int.mul_assoc]
      have a4 : n * e * f = e * (n * f) := by rw [Int.mul_comm n e, Int.mul_assoc]
      have a5 : p * e * d = e * (p * d) := by rw [Int.mul_comm p e, Int.mul_assoc]
      exact Int.le_of_mul_le_mul_left (a := e) (by rw [← a4, ← a5]; omega) (by omega)
theorem FC_chain2 (n d m e p f : Int) (d0 : 0 ≤ d) (e0 : 0 ≤ e) (f0 : 0 ≤ f) (h1 : 0 ≤ FC n d m e) (h2 : 0 ≤ FC m e p f) : 0 ≤ FC n d p f := by
  have a := FC_anti n d m e; have b := FC_anti m e p f; have c := FC_anti n d p f
  have := FC_chain p f m e n d f0 e0 d0 (by omega) (by omega)
  omega
theorem compareI_f (a b : Int) : cmp_Compare_int.f a b = some (cmpI a b) := by
  unfold cmp_Compare_int.f cmp_isNaN_int.f cmpI
  rw [Option.bind_some, Option.bind_some, if_neg (by simp), if_neg (by simp)]
  split
  · rfl
  · split <;> rfl
theorem right_f (h l d : Int) : frac_Right.f h l d = some (d != 0) := rfl
theorem rank_f (b : Bool) : frac_rank.f b = some (if b = true then 1 else 0) := by unfold frac_rank.f; split <;> rfl
theorem fcmp_j (k : Nat) {h l d h2 l2 d2 : Int} (h0 : 0 ≤ h) (h1 : h < 18446744073709551616) (l0 : 0 ≤ l) (l1 : l < 18446744073709551616) (e0 : 0 ≤ d) (e1 : d < 18446744073709551616)
    (g0 : 0 ≤ h2) (g1 : h2 < 18446744073709551616) (m0 : 0 ≤ l2) (m1 : l2 < 18446744073709551616) (f0 : 0 ≤ d2) (f1 : d2 < 18446744073709551616) (hd : d ≠ 0) (he : d2 ≠ 0) :
    frac_Cmp.j0 (k + 1) false h l d h2 l2 d2 = some (FC (h * 18446744073709551616 + l) d (h2 * 18446744073709551616 + l2) d2) := by
  rw [frac_Cmp.j0, if_neg (by decide), times_f h0 h1 l0 l1 f0 f1, Option.bind_some, times_f g0 g1 m0 m1 e0 e1, Option.bind_some, cmplong_f (Int.mul_nonneg (by omega) f0) (Int.mul_nonneg (by omega) e0), Option.bind_some]
  unfold FC
  rw [if_neg hd, if_neg he]
theorem fcmp_f (k : Nat) (hk : 1 ≤ k) {h l d h2 l2 d2 : Int} (h0 : 0 ≤ h) (h1 : h < 18446744073709551616) (l0 : 0 ≤ l) (l1 : l < 18446744073709551616) (e0 : 0 ≤ d) (e1 : d < 18446744073709551616)
    (g0 : 0 ≤ h2) (g1 : h2 < 18446744073709551616) (m0 : 0 ≤ l2) (m1 : l2 < 18446744073709551616) (f0 : 0 ≤ d2) (f1 : d2 < 18446744073709551616) :
    frac_Cmp.f k h l d h2 l2 d2 = some (FC (h * 18446744073709551616 + l) d (h2 * 18446744073709551616 + l2) d2) := by
  obtain ⟨k, rfl⟩ : ∃ q, k = q + 1 := ⟨k - 1, by omega⟩
  unfold frac_Cmp.f
  rw [right_f, Option.bind_some]
  by_cases hd : d = 0
  · rw [hd, if_neg (by decide), frac_Cmp.j0, if_pos rfl, right_f, Option.bind_some, rank_f, Option.bind_some, right_f, Option.bind_some, rank_f, Option.bind_some, compareI_f, Option.bind_some]
    unfold FC
    rw [if_pos rfl]
    by_cases he : d2 = 0
    · rw [if_pos he, he]; rfl
    · rw [if_neg he, show (d2 != 0) = true from bne_iff_ne.2 he]; rfl
  · rw [show (d != 0) = true from bne_iff_ne.2 hd, if_pos rfl, right_f, Option.bind_some]
    by_cases he : d2 = 0
    · rw [he, show (!((0 : Int) != 0)) = true from rfl, frac_Cmp.j0, if_pos rfl, right_f, Option.bind_some, rank_f, Option.bind_some, right_f, Option.bind_some, rank_f, Option.bind_some, compareI_f, Option.bind_some]
      unfold FC
      rw [if_neg hd, if_pos rfl, show (d != 0) = true from bne_iff_ne.2 hd]; rfl
    · rw [show (!(d2 != 0)) = false by rw [show (d2 != 0) = true from bne_iff_ne.2 he]; rfl]
      exact fcmp_j k h0 h1 l0 l1 e0 e1 g0 g1 m0 m1 f0 f1 hd he
end Fr
open Sp (InI)
theorem in0 : InI 0 := by unfold InI; omega
theorem wf_in {a : Int} (h : (Lit.int .i64 a).wf = true) : InI a := wf_i64 h
def In (n : Int) : Prop := -9223372036854775808 ≤ n ∧ n ≤ 9223372036854775807
theorem plus_in {a b : Int} (ha : In a) (hb : In b) (h : In (a + b)) : prod_Plus.f a b = some (a + b, 0) := by
  unfold In at *
  unfold prod_Plus.f
  rw [wrap64_id h.1 h.2]
  split
  · rename_i h1
    rw [if_neg]
    rw [beq_iff_eq, decide_eq_decide] at h1
    rw [bne_iff_ne, ne_eq, decide_eq_decide]
    omega
  · rfl
theorem plus_out {a b : Int} (ha : In a) (hb : In b) (h : ¬ In (a + b)) : prod_Plus.f a b = some (0, 6) := by
  unfold In at *
  unfold prod_Plus.f
  rw [if_pos, if_pos]
  · rw [bne_iff_ne, ne_eq, decide_eq_decide]; unfold wrap64; omega
  · rw [beq_iff_eq, decide_eq_decide]; omega
theorem plus_tot {a b : Int} (ha : InI a) (hb : InI b) : ∃ x e, prod_Plus.f a b = some (x, e) ∧ InI x := by
  by_cases h : In (a + b)
  · exact ⟨_, _, plus_in ha hb h, h⟩
  · exact ⟨_, _, plus_out ha hb h, in0⟩
theorem mom_tot {a b c d e f : Int} (ha : InI a) (hb : InI b) (hc : InI c) (hd : InI d) (he : InI e) (hf : InI f) : ∃ r1 r2 r3 r4, hist_moments_1.f a b c d e f = some (r1, r2, r3, r4) ∧ InI r1 ∧ InI r2 ∧ InI r3 := by
  obtain ⟨x, e1, hx, ix⟩ := plus_tot ha hd
  obtain ⟨y, e2, hy, iy⟩ := plus_tot hb he
  obtain ⟨z, e3, hz, iz⟩ := plus_tot hc hf
  have p1 : hist_plus.f a d false = some (x, e1) := by unfold hist_plus.f; rw [hx, Option.bind_some]
  have p2 : hist_plus.f b e true = some (y, e2) := by unfold hist_plus.f; rw [hy, Option.bind_some]
  have p3 : hist_plus.f c f false = some (z, e3) := by unfold hist_plus.f; rw [hz, Option.bind_some]
  unfold hist_moments_1.f
  rw [p1, Option.bind_some]
  dsimp only
  split
  · rw [p2, Option.bind_some]
    dsimp only
    split
    · rw [p3, Option.bind_some]
      dsimp only
      split
      · exact ⟨_, _, _, _, rfl, ix, iy, iz⟩
      · exact ⟨_, _, _, _, rfl, in0, in0, in0⟩
    · exact ⟨_, _, _, _, rfl, in0, in0, in0⟩
  · exact ⟨_, _, _, _, rfl, in0, in0, in0⟩
/-- A right histogram. -/
def Rt (K B C : Int) (l3 : List Int) (l4 : List S54) : Prop := (1 ≤ B ∧ B ≤ 257) ∧ ((K = 0 ∧ 2 ≤ C ∧ C ≤ 256 ∧ (l3.length : Int) = B * C ∧ l4.length = 0) ∨ (K = 1 ∧ C = 0 ∧ l3.length = 0 ∧ (l4.length : Int) = B))
theorem area {B C : Int} (b0 : 1 ≤ B) (b1 : B ≤ 257) (c0 : 0 ≤ C) (c1 : C ≤ 256) : 0 ≤ B * C ∧ B * C ≤ 65792 := by
  refine ⟨Int.mul_nonneg (by omega) c0, ?_⟩
  have := Int.mul_le_mul b1 c1 c0 (by omega : (0 : Int) ≤ 257)
  omega
theorem right_f (K B C : Int) (l3 : List Int) (l4 : List S54) : ∃ r, hist_Right.f K B C l3 l4 = some r ∧ (r = true ↔ Rt K B C l3 l4) := by
  unfold hist_Right.f hist_may.f Rt
  by_cases h1 : B < 1
  · rw [if_pos h1, Option.bind_some, if_neg (by decide)]; exact ⟨_, rfl, ⟨fun h => (by cases h), fun h => absurd h (by omega)⟩⟩
  rw [if_neg h1]
  by_cases h2 : B > 257
  · rw [if_pos h2, Option.bind_some, if_neg (by decide)]; exact ⟨_, rfl, ⟨fun h => (by cases h), fun h => absurd h (by omega)⟩⟩
  rw [if_neg h2]
  by_cases h3 : K = 0
  · subst h3
    rw [if_pos rfl]
    by_cases h4 : C ≥ 2
    · rw [if_pos h4]
      by_cases h5 : C ≤ 256
      · obtain ⟨a0, a1⟩ := area (B := B) (C := C) (by omega) (by omega) (by omega) h5
        rw [if_pos h5, Option.bind_some, if_pos rfl, if_pos rfl, wrap64_id (by omega) (by omega)]
        by_cases h6 : (l3.length : Int) = B * C
        · rw [if_pos h6]; exact ⟨_, rfl, by rw [beq_iff_eq]; omega⟩
        · rw [if_neg h6]; exact ⟨_, rfl, ⟨fun h => (by cases h), fun h => absurd h (by omega)⟩⟩
      · rw [if_neg h5, if_neg (by decide), Option.bind_some, if_neg (by decide)]; exact ⟨_, rfl, ⟨fun h => (by cases h), fun h => absurd h (by omega)⟩⟩
    · rw [if_neg h4, if_neg (by decide), Option.bind_some, if_neg (by decide)]; exact ⟨_, rfl, ⟨fun h => (by cases h), fun h => absurd h (by omega)⟩⟩
  · rw [if_neg h3]
    by_cases h4 : K = 1
    · subst h4
      rw [if_pos rfl, Option.bind_some]
      by_cases h5 : C = 0
      · subst h5
        rw [if_pos (by decide), if_neg (by decide)]
        by_cases h6 : (l3.length : Int) = 0
        · rw [if_pos h6]; exact ⟨_, rfl, by rw [beq_iff_eq]; omega⟩
        · rw [if_neg h6]; exact ⟨_, rfl, ⟨fun h => (by cases h), fun h => absurd h (by omega)⟩⟩
      · rw [if_neg (by simpa using h5)]; exact ⟨_, rfl, ⟨fun h => (by cases h), fun h => absurd h (by omega)⟩⟩
    · rw [if_neg h4, Option.bind_some, if_neg (by decide)]; exact ⟨_, rfl, ⟨fun h => (by cases h), fun h => absurd h (by omega)⟩⟩
theorem rd_nat (l : List Int) (i : Nat) : rd l (i : Int) = l.getD i 0 := rfl
theorem rd_in {l : List Int} (h : ∀ x ∈ l, InI x) (i : Int) : InI (rd l i) := by
  unfold rd
  by_cases hi : i.toNat < l.length
  · rw [show l.getD i.toNat 0 = l[i.toNat] by simp [List.getD, hi]]; exact h _ (List.getElem_mem _)
  · rw [show l.getD i.toNat 0 = 0 by simp [List.getD, List.getElem?_eq_none (by omega : l.length ≤ i.toNat)]]; exact in0
theorem rdm_in {l : List S54} (h : ∀ m ∈ l, InI m.f0 ∧ InI m.f1 ∧ InI m.f2) (i : Int) (h0 : 0 ≤ i) (h1 : i < (l.length : Int)) : InI (rd_T54 l i).f0 ∧ InI (rd_T54 l i).f1 ∧ InI (rd_T54 l i).f2 := by
  have e : rd_T54 l i ∈ l := by
    unfold rd_T54
    rw [show l.getD i.toNat _ = l[i.toNat]'(by omega) by simp [List.getD, show i.toNat < l.length by omega]]
    exact List.getElem_mem _
  exact h _ e
def Good (r : List Int × Int × Int × Int × Int) : Prop := InI r.2.1 ∧ InI r.2.2.1 ∧ InI r.2.2.2.1
theorem sum_l1 {K B C : Int} {l3 : List Int} {l4 : List S54} (hR : Rt K B C l3 l4) (h3 : ∀ x ∈ l3, InI x) (h4 : ∀ m ∈ l4, InI m.f0 ∧ InI m.f1 ∧ InI m.f2) (t x11 : Int) (x0 : 0 ≤ x11) (x1 : x11 < B) (n : Nat) (hn : n ≠ 0 → K = 0 ∧ (n : Int) = C) (Kd : Nat) {c s q : Int} (ic : InI c) (is_ : InI s) (iq : InI q)
    (IH : ∀ k x9 c s q, Kd < k → x9.length = n → (∀ x ∈ x9, InI x) → InI c → InI s → InI q → ∃ r, hist_Sum.l0 k t x9 (wrap64 (x11 + 1)) K B C l3 l4 c s q = some r ∧ Good r) :
    ∀ (m i k : Nat) (x9 : List Int), i + m = n → Kd + m + 1 < k → x9.length = n → (∀ x ∈ x9, InI x) → ∃ r, hist_Sum.l1 k t x9 x11 (n : Int) (i : Int) K B C l3 l4 c s q = some r ∧ Good r
  | 0, i, k + 1, x9, h, hk, h9, i9 => by
    rw [hist_Sum.l1, if_neg (by omega)]
    by_cases hK : K = 1
    · have hl : (l4.length : Int) = B := by
        obtain ⟨_, h⟩ := hR
        rcases h with h | h
        · omega
        · exact h.2.2.2
      obtain ⟨m0, m1, m2⟩ := rdm_in h4 x11 x0 (by omega)
      obtain ⟨r1, r2, r3, r4, e, i1, i2, i3⟩ := mom_tot ic is_ iq m0 m1 m2
      rw [if_pos hK, if_pos x0, if_pos (by omega), e, Option.bind_some]
      dsimp only
      split
      · exact IH k x9 _ _ _ (by omega) h9 i9 i1 i2 i3
      · exact ⟨_, rfl, in0, in0, in0⟩
    · rw [if_neg hK]
      exact IH k x9 _ _ _ (by omega) h9 i9 ic is_ iq
  | m + 1, i, k + 1, x9, h, hk, h9, i9 => by
    obtain ⟨hK, hC⟩ := hn (by omega)
    obtain ⟨⟨b0, b1⟩, hR'⟩ := hR
    have hR2 : 2 ≤ C ∧ C ≤ 256 ∧ (l3.length : Int) = B * C := by
      rcases hR' with h | h
      · exact ⟨h.2.1, h.2.2.1, h.2.2.2.1⟩
      · omega
    obtain ⟨c0, c1, hl3⟩ := hR2
    obtain ⟨a0, a1⟩ := area b0 b1 (by omega) c1
    have p0 : 0 ≤ x11 * C := Int.mul_nonneg x0 (by omega)
    have p1 : x11 * C + C ≤ B * C := by
      have := Int.mul_le_mul_of_nonneg_right (show x11 + 1 ≤ B by omega) (show 0 ≤ C by omega)
      rw [Int.add_mul, Int.one_mul] at this
      exact this
    rw [hist_Sum.l1, if_pos (by omega), if_pos (by omega), if_pos (by omega), wrap64_id (n := x11 * C) (by omega) (by omega), wrap64_id (n := x11 * C + (i : Int)) (by omega) (by omega), if_pos (by omega), if_pos (by omega)]
    obtain ⟨y, e, hp, iy⟩ := plus_tot (rd_in i9 (i : Int)) (rd_in h3 (x11 * C + (i : Int)))
    rw [hp, Option.bind_some]
    dsimp only
    split
    · rw [wrap64_id (n := (i : Int) + 1) (by omega) (by omega)]
      exact sum_l1 ⟨⟨b0, b1⟩, hR'⟩ h3 h4 t x11 x0 x1 n hn Kd ic is_ iq IH m (i + 1) k _ (by omega) (by omega) (by simpa using h9) (fun x hx => by
        rcases List.mem_or_eq_of_mem_set hx with h | h
        · exact i9 x h
        · rw [h]; exact iy)
    · exact ⟨_, rfl, in0, in0, in0⟩
theorem sum_l0 {K B C : Int} {l3 : List Int} {l4 : List S54} (hR : Rt K B C l3 l4) (h3 : ∀ x ∈ l3, InI x) (h4 : ∀ m ∈ l4, InI m.f0 ∧ InI m.f1 ∧ InI m.f2) (t : Int) (t1 : t ≤ B) (n : Nat) (hn : n ≠ 0 → K = 0 ∧ (n : Int) = C) :
    ∀ (d k : Nat) (x11 : Int) (x9 : List Int) (c s q : Int), x11 + d = t → 0 ≤ x11 → d * (n + 3) < k → x9.length = n → (∀ x ∈ x9, InI x) → InI c → InI s → InI q → ∃ r, hist_Sum.l0 k t x9 x11 K B C l3 l4 c s q = some r ∧ Good r
  | 0, k + 1, x11, x9, c, s, q, h, _, _, _, _, ic, is_, iq => by
    rw [hist_Sum.l0, if_neg (by omega)]
    exact ⟨_, rfl, ic, is_, iq⟩
  | d + 1, k + 1, x11, x9, c, s, q, h, x0, hk, h9, i9, ic, is_, iq => by
    have hb := hR.1
    rw [Nat.succ_mul] at hk
    rw [hist_Sum.l0, if_pos (by omega), h9]
    exact sum_l1 hR h3 h4 t x11 x0 (by omega) n hn (d * (n + 3)) ic is_ iq (fun k x9 c s q hk h9 i9 ic is_ iq => by
      rw [wrap64_id (by omega) (by omega)]
      exact sum_l0 hR h3 h4 t t1 n hn d k (x11 + 1) x9 c s q (by omega) (by omega) hk h9 i9 ic is_ iq) n 0 k x9 (by omega) (by omega) h9 i9
theorem sum_tot {K B C : Int} {l3 : List Int} {l4 : List S54} (hR : Rt K B C l3 l4) (h3 : ∀ x ∈ l3, InI x) (h4 : ∀ m ∈ l4, InI m.f0 ∧ InI m.f1 ∧ InI m.f2) (f t : Int) (f0 : 0 ≤ f) (ft : f ≤ t) (t1 : t ≤ B) :
    ∃ cs c s q e, (∀ k, 70000 ≤ k → hist_Sum.f k K B C l3 l4 f t = some (cs, c, s, q, e)) ∧ InI c ∧ InI s ∧ InI q := by
  obtain ⟨r, hr, hiff⟩ := right_f K B C l3 l4
  have hb := hR.1
  have go : ∃ r, hist_Sum.f 70000 K B C l3 l4 f t = some r ∧ Good r := by
    unfold hist_Sum.f
    rw [hr, hiff.2 hR, Option.bind_some, if_pos rfl, if_neg (by omega), if_neg (by omega), if_neg (by omega)]
    by_cases hK : K = 0
    · have hC : 2 ≤ C ∧ C ≤ 256 := by
        rcases hR.2 with h | h
        · exact ⟨h.2.1, h.2.2.1⟩
        · omega
      rw [if_pos hK, if_pos (by omega), if_pos (by omega), hist_Sum.j0]
      have hd : (t - f).toNat * (C.toNat + 3) ≤ 257 * 259 := Nat.mul_le_mul (by omega) (by omega)
      exact sum_l0 hR h3 h4 t t1 C.toNat (fun _ => ⟨hK, by omega⟩) (t - f).toNat 69999 f _ 0 0 0 (by omega) f0 (by omega) (by simp) (fun x hx => by rw [List.eq_of_mem_replicate hx]; exact in0) in0 in0 in0
    · rw [if_neg hK, hist_Sum.j0]
      exact sum_l0 hR h3 h4 t t1 0 (fun h => absurd rfl h) (t - f).toNat 69999 f _ 0 0 0 (by omega) f0 (by omega) rfl (fun x hx => by cases hx) in0 in0 in0
  obtain ⟨⟨cs, c, s, q, e⟩, hgo, g1, g2, g3⟩ := go
  exact ⟨cs, c, s, q, e, fun k hk => at_rounds (g := fun k => hist_Sum.f k K B C l3 l4 f t) (hist_Sum.mono _ _ _ _ _ _ _) hk hgo, g1, g2, g3⟩
theorem csize_l (l : List Int) (hl : l.length ≤ 256) (h : ∀ x ∈ l, 0 ≤ x) : ∀ (m i k : Nat) (s : Int), i + m = l.length → m < k → 0 ≤ s → s + S1 (l.drop i) ≤ 1048576 → split_classes_size.l0 k s l (l.length : Int) (i : Int) = some (s + S1 (l.drop i))
  | 0, i, k + 1, s, h0, _, _, _ => by
    rw [split_classes_size.l0, if_neg (by omega), List.drop_eq_nil_of_le (by omega)]
    simp [S1]
  | m + 1, i, k + 1, s, h0, hk, s0, s1 => by
    have hx : 0 ≤ l[i]'(by omega) := h _ (List.getElem_mem _)
    have hd := Gi.S1_nonneg (l := l.drop (i + 1)) (fun x hx => h x (List.mem_of_mem_drop hx))
    rw [List.drop_eq_getElem_cons (by omega : i < l.length), S1] at s1 ⊢
    rw [split_classes_size.l0, if_pos (by omega), if_pos (by omega), if_pos (by omega), rd_nat, show l.getD i 0 = l[i]'(by omega) by simp [List.getD, show i < l.length by omega], wrap64_id (n := s + l[i]'(by omega)) (by omega) (by omega), wrap64_id (n := (i : Int) + 1) (by omega) (by omega)]
    have := csize_l l hl h m (i + 1) k (s + l[i]'(by omega)) (by omega) (by omega) (by omega) (by omega)
    rw [show ((i + 1 : Nat) : Int) = (i : Int) + 1 by omega] at this
    rw [this]
    congr 1
    omega
def sizeC (l : List Int) : Int := if Gi.MayG l then S1 l else 0
theorem csize_f (l : List Int) (k : Nat) (hk : 300 ≤ k) : split_classes_size.f k l = some (sizeC l) := by
  unfold split_classes_size.f sizeC
  rw [Gi.may_f l k hk, Option.bind_some]
  by_cases h : Gi.MayG l
  · rw [decide_eq_true h, if_pos rfl, if_pos h]
    have := csize_l l h.2.1 h.2.2.1 l.length 0 k 0 (by omega) (by have := h.2.1; omega) (Int.le_refl _) (by simpa using h.2.2.2)
    rw [show ((0 : Nat) : Int) = 0 from rfl] at this
    rw [this]; simp
  · rw [decide_eq_false h, if_neg (by decide), if_neg h]
def sizeM (c s q : Int) : Int := if Sp.MayP c s q then c else 0
theorem msize_f (k : Nat) (hk : 10 ≤ k) {c s q : Int} (hc : InI c) (hs : InI s) (hq : InI q) : split_means_size.f k c s q = some (sizeM c s q) := by
  unfold split_means_size.f sizeM
  rw [Sp.may_f k hk hc hs hq, Option.bind_some]
  by_cases h : Sp.MayP c s q
  · rw [decide_eq_true h, if_pos rfl, if_pos h]
  · rw [decide_eq_false h, if_neg (by decide), if_neg h]
/-- A fraction's three numbers are of 64 bits. -/
def InF (f : Int × Int × Int) : Prop := (0 ≤ f.1 ∧ f.1 < 18446744073709551616) ∧ (0 ≤ f.2.1 ∧ f.2.1 < 18446744073709551616) ∧ (0 ≤ f.2.2 ∧ f.2.2 < 18446744073709551616)
theorem inF0 : InF (0, 0, 0) := by unfold InF; dsimp only; omega
def fc (f g : Int × Int × Int) : Int := Fr.FC (f.1 * 18446744073709551616 + f.2.1) f.2.2 (g.1 * 18446744073709551616 + g.2.1) g.2.2
theorem fc_f (k : Nat) (hk : 1 ≤ k) {f g : Int × Int × Int} (hf : InF f) (hg : InF g) : frac_Cmp.f k f.1 f.2.1 f.2.2 g.1 g.2.1 g.2.2 = some (fc f g) := Fr.fcmp_f k hk hf.1.1 hf.1.2 hf.2.1.1 hf.2.1.2 hf.2.2.1 hf.2.2.2 hg.1.1 hg.1.2 hg.2.1.1 hg.2.1.2 hg.2.2.1 hg.2.2.2
theorem inF_aloneC (l : List Int) : InF (Gi.aloneD l) := by
  unfold Gi.aloneD
  split
  · rename_i h
    have h2 := Gi.S2_small h.1
    have h1 := Gi.S1_nonneg h.1.2.2.1
    have h3 := h.1.2.2.2
    unfold InF; dsimp only; omega
  · exact inF0
theorem inF_scoreC (a b : List Int) : InF (Gi.scoreD a b) := by
  unfold Gi.scoreD
  split
  · rename_i h
    obtain ⟨u1, u2, u3⟩ := Gi.upper_bound h
    unfold InF Gi.upper; dsimp only; omega
  · exact inF0
def aloneM (c s q : Int) : Int × Int × Int := if 0 < c ∧ Sp.MayP c s q then ((Sp.wideD (s * s)).1, (Sp.wideD (s * s)).2, c) else (0, 0, 0)
def scoreM (c s q c2 s2 q2 : Int) : Int × Int × Int := if (0 < c ∧ Sp.MayP c s q) ∧ (0 < c2 ∧ Sp.MayP c2 s2 q2) then ((Sp.wideD (s * s * c2 + s2 * s2 * c)).1, (Sp.wideD (s * s * c2 + s2 * s2 * c)).2, c * c2) else (0, 0, 0)
theorem inF_aloneM (c s q : Int) : InF (aloneM c s q) := by
  unfold aloneM
  split
  · rename_i h
    obtain ⟨h1, h2, h3⟩ := Sp.there_bound h
    have := h.1
    unfold InF Sp.wideD; dsimp only; omega
  · exact inF0
theorem inF_scoreM (c s q c2 s2 q2 : Int) : InF (scoreM c s q c2 s2 q2) := by
  unfold scoreM
  split
  · rename_i h
    obtain ⟨h1, h2, h3⟩ := Sp.there_bound h.1
    obtain ⟨g1, g2, g3⟩ := Sp.there_bound h.2
    have p1 := h.1.1
    have p2 := h.2.1
    have a0 : 0 ≤ s * s * c2 := Int.mul_nonneg h2 (by omega)
    have a1 : s * s * c2 ≤ 1208925819614629174706176 * 1048576 := Int.mul_le_mul h3 g1 (by omega) (by decide)
    have b0 : 0 ≤ s2 * s2 * c := Int.mul_nonneg g2 (by omega)
    have b1 : s2 * s2 * c ≤ 1208925819614629174706176 * 1048576 := Int.mul_le_mul g3 h1 (by omega) (by decide)
    have d0 : 0 ≤ c * c2 := Int.mul_nonneg (by omega) (by omega)
    have d1 : c * c2 ≤ 1048576 * 1048576 := Int.mul_le_mul h1 g1 (by omega) (by decide)
    unfold InF Sp.wideD; dsimp only; omega
  · exact inF0
theorem cutC {K B C : Int} {c3 : List Int} {c4 : List S54} (h3 : ∀ x ∈ c3, InI x) (h4 : ∀ m ∈ c4, InI m.f0 ∧ InI m.f1 ∧ InI m.f2) (bin : Int) :
    ∃ (A : Bool) (x y : Int) (f : Int × Int × Int), InF f ∧ (A = true → Rt K B C c3 c4 ∧ 0 ≤ bin ∧ bin < B - 1 ∧ f.2.2 ≠ 0) ∧ ∀ k, 70000 ≤ k → ∀ leaf, 1 ≤ leaf → split_CutC.f k K B C c3 c4 bin leaf = some (if A = true ∧ leaf ≤ x ∧ leaf ≤ y then (f.1, f.2.1, f.2.2, true) else (0, 0, 0, false)) := by
  obtain ⟨r, hr, hiff⟩ := right_f K B C c3 c4
  have no : (∀ k leaf, 70000 ≤ k → 1 ≤ leaf → split_CutC.f k K B C c3 c4 bin leaf = some (0, 0, 0, false)) → ∃ (A : Bool) (x y : Int) (f : Int × Int × Int), InF f ∧ (A = true → Rt K B C c3 c4 ∧ 0 ≤ bin ∧ bin < B - 1 ∧ f.2.2 ≠ 0) ∧ ∀ k, 70000 ≤ k → ∀ leaf, 1 ≤ leaf → split_CutC.f k K B C c3 c4 bin leaf = some (if A = true ∧ leaf ≤ x ∧ leaf ≤ y then (f.1, f.2.1, f.2.2, true) else (0, 0, 0, false)) :=
    fun h => ⟨false, 0, 0, (0, 0, 0), inF0, fun h => (by cases h), fun k hk leaf hl => by rw [h k leaf hk hl, if_neg (fun z => by cases z.1)]⟩
  cases r with
  | false => exact no (fun k leaf hk hl => by unfold split_CutC.f; rw [hr, Option.bind_some, if_neg (by decide)])
  | true =>
  have hR := hiff.1 rfl
  have hb := hR.1
  by_cases b0 : bin < 0
  · exact no (fun k leaf hk hl => by unfold split_CutC.f; rw [hr, Option.bind_some, if_pos rfl, if_pos b0])
  have wb : wrap64 (B - 1) = B - 1 := wrap64_id (by omega) (by omega)
  by_cases b1 : bin ≥ B - 1
  · exact no (fun k leaf hk hl => by unfold split_CutC.f; rw [hr, Option.bind_some, if_pos rfl, if_neg b0, wb, if_pos b1])
  have wn : wrap64 (bin + 1) = bin + 1 := wrap64_id (by omega) (by omega)
  obtain ⟨a, a1, a2, a3, ea, Ha, ia1, ia2, ia3⟩ := sum_tot hR h3 h4 0 B (by omega) (by omega) (by omega)
  obtain ⟨l, l1, l2, l3, el, Hl, il1, il2, il3⟩ := sum_tot hR h3 h4 0 (bin + 1) (by omega) (by omega) (by omega)
  obtain ⟨r, r1, r2, r3, er, Hr, ir1, ir2, ir3⟩ := sum_tot hR h3 h4 (bin + 1) B (by omega) (by omega) (by omega)
  have hA : ∀ k, 70000 ≤ k → split_binsC.f k K B C c3 c4 0 B = some (a, ea == 0) := fun k hk => by unfold split_binsC.f; rw [Ha k hk, Option.bind_some]
  have hL : ∀ k, 70000 ≤ k → split_binsC.f k K B C c3 c4 0 (bin + 1) = some (l, el == 0) := fun k hk => by unfold split_binsC.f; rw [Hl k hk, Option.bind_some]
  have hS : ∀ k, 70000 ≤ k → split_binsC.f k K B C c3 c4 (bin + 1) B = some (r, er == 0) := fun k hk => by unfold split_binsC.f; rw [Hr k hk, Option.bind_some]
  refine ⟨(ea == 0) && ((el == 0) && ((er == 0) && (((Gi.scoreD l r).2.2 != 0) && decide (0 < fc (Gi.scoreD l r) (Gi.aloneD a))))), sizeC l, sizeC r, (Gi.scoreD l r), (inF_scoreC l r), ?_, ?_⟩
  · intro h
    simp only [Bool.and_eq_true, bne_iff_ne] at h
    exact ⟨hR, by omega, by omega, h.2.2.2.1⟩
  intro k hk leaf hl
  have e1 : split_classes_score.f k l r = some (Gi.scoreD l r) := by unfold split_classes_score.f; rw [Gi.score_f l r k (by omega), Option.bind_some]
  have e2 : split_classes_alone.f k a = some (Gi.aloneD a) := by unfold split_classes_alone.f; rw [Gi.alone_f a k (by omega), Option.bind_some]
  have e3 := fc_f k (by omega) (inF_scoreC l r) (inF_aloneC a)
  unfold split_CutC.f
  rw [hr, Option.bind_some, if_pos rfl, if_neg b0, wb, if_neg b1, if_neg (by omega), hA k hk, Option.bind_some, wn, hL k hk, Option.bind_some, hS k hk, Option.bind_some]
  dsimp only
  cases h1 : (ea == 0)
  · rw [if_neg (by decide), if_neg (fun z => by simpa using z.1)]
  rw [if_pos rfl]
  cases h2 : (el == 0)
  · rw [if_neg (by decide), if_neg (fun z => by simpa using z.1)]
  rw [if_pos rfl]
  cases h5 : (er == 0)
  · rw [if_neg (by decide), if_neg (fun z => by simpa using z.1)]
  rw [if_pos rfl, csize_f l k (by omega), Option.bind_some]
  by_cases x1 : sizeC l < leaf
  · rw [if_pos x1, if_neg (fun z => by have := z.2.1; omega)]
  rw [if_neg x1, csize_f r k (by omega), Option.bind_some]
  by_cases x2 : sizeC r < leaf
  · rw [if_pos x2, if_neg (fun z => by have := z.2.2; omega)]
  rw [if_neg x2, e1, Option.bind_some, Fr.right_f, Option.bind_some]
  cases h6 : ((Gi.scoreD l r).2.2 != 0)
  · rw [if_neg (by decide), if_neg (fun z => by simpa using z.1)]
  rw [if_pos rfl, e2, Option.bind_some, e3, Option.bind_some]
  by_cases x3 : fc (Gi.scoreD l r) (Gi.aloneD a) ≤ 0
  · rw [if_pos x3, if_neg (fun z => by have := z.1; simp at this; omega)]
  · rw [if_neg x3, if_pos ⟨by simp; omega, by omega, by omega⟩]
theorem cutM {K B C : Int} {c3 : List Int} {c4 : List S54} (h3 : ∀ x ∈ c3, InI x) (h4 : ∀ m ∈ c4, InI m.f0 ∧ InI m.f1 ∧ InI m.f2) (bin : Int) :
    ∃ (A : Bool) (x y : Int) (f : Int × Int × Int), InF f ∧ (A = true → Rt K B C c3 c4 ∧ 0 ≤ bin ∧ bin < B - 1 ∧ f.2.2 ≠ 0) ∧ ∀ k, 70000 ≤ k → ∀ leaf, 1 ≤ leaf → split_CutM.f k K B C c3 c4 bin leaf = some (if A = true ∧ leaf ≤ x ∧ leaf ≤ y then (f.1, f.2.1, f.2.2, true) else (0, 0, 0, false)) := by
  obtain ⟨r, hr, hiff⟩ := right_f K B C c3 c4
  have no : (∀ k leaf, 70000 ≤ k → 1 ≤ leaf → split_CutM.f k K B C c3 c4 bin leaf = some (0, 0, 0, false)) → ∃ (A : Bool) (x y : Int) (f : Int × Int × Int), InF f ∧ (A = true → Rt K B C c3 c4 ∧ 0 ≤ bin ∧ bin < B - 1 ∧ f.2.2 ≠ 0) ∧ ∀ k, 70000 ≤ k → ∀ leaf, 1 ≤ leaf → split_CutM.f k K B C c3 c4 bin leaf = some (if A = true ∧ leaf ≤ x ∧ leaf ≤ y then (f.1, f.2.1, f.2.2, true) else (0, 0, 0, false)) :=
    fun h => ⟨false, 0, 0, (0, 0, 0), inF0, fun h => (by cases h), fun k hk leaf hl => by rw [h k leaf hk hl, if_neg (fun z => by cases z.1)]⟩
  cases r with
  | false => exact no (fun k leaf hk hl => by unfold split_CutM.f; rw [hr, Option.bind_some, if_neg (by decide)])
  | true =>
  have hR := hiff.1 rfl
  have hb := hR.1
  by_cases b0 : bin < 0
  · exact no (fun k leaf hk hl => by unfold split_CutM.f; rw [hr, Option.bind_some, if_pos rfl, if_pos b0])
  have wb : wrap64 (B - 1) = B - 1 := wrap64_id (by omega) (by omega)
  by_cases b1 : bin ≥ B - 1
  · exact no (fun k leaf hk hl => by unfold split_CutM.f; rw [hr, Option.bind_some, if_pos rfl, if_neg b0, wb, if_pos b1])
  have wn : wrap64 (bin + 1) = bin + 1 := wrap64_id (by omega) (by omega)
  obtain ⟨a, a1, a2, a3, ea, Ha, ia1, ia2, ia3⟩ := sum_tot hR h3 h4 0 B (by omega) (by omega) (by omega)
  obtain ⟨l, l1, l2, l3, el, Hl, il1, il2, il3⟩ := sum_tot hR h3 h4 0 (bin + 1) (by omega) (by omega) (by omega)
  obtain ⟨r, r1, r2, r3, er, Hr, ir1, ir2, ir3⟩ := sum_tot hR h3 h4 (bin + 1) B (by omega) (by omega) (by omega)
  have hA : ∀ k, 70000 ≤ k → split_binsM.f k K B C c3 c4 0 B = some (a1, a2, a3, ea == 0) := fun k hk => by unfold split_binsM.f; rw [Ha k hk, Option.bind_some]
  have hL : ∀ k, 70000 ≤ k → split_binsM.f k K B C c3 c4 0 (bin + 1) = some (l1, l2, l3, el == 0) := fun k hk => by unfold split_binsM.f; rw [Hl k hk, Option.bind_some]
  have hS : ∀ k, 70000 ≤ k → split_binsM.f k K B C c3 c4 (bin + 1) B = some (r1, r2, r3, er == 0) := fun k hk => by unfold split_binsM.f; rw [Hr k hk, Option.bind_some]
  refine ⟨(ea == 0) && ((el == 0) && ((er == 0) && (((scoreM l1 l2 l3 r1 r2 r3).2.2 != 0) && decide (0 < fc (scoreM l1 l2 l3 r1 r2 r3) (aloneM a1 a2 a3))))), sizeM l1 l2 l3, sizeM r1 r2 r3, (scoreM l1 l2 l3 r1 r2 r3), (inF_scoreM l1 l2 l3 r1 r2 r3), ?_, ?_⟩
  · intro h
    simp only [Bool.and_eq_true, bne_iff_ne] at h
    exact ⟨hR, by omega, by omega, h.2.2.2.1⟩
  intro k hk leaf hl
  have e1 : split_means_score.f k l1 l2 l3 r1 r2 r3 = some (scoreM l1 l2 l3 r1 r2 r3) := by unfold split_means_score.f; rw [Sp.score_f k (by omega) il1 il2 il3 ir1 ir2 ir3, Option.bind_some]; rfl
  have e2 : split_means_alone.f k a1 a2 a3 = some (aloneM a1 a2 a3) := by unfold split_means_alone.f; rw [Sp.alone_f k (by omega) ia1 ia2 ia3, Option.bind_some]; rfl
  have e3 := fc_f k (by omega) (inF_scoreM l1 l2 l3 r1 r2 r3) (inF_aloneM a1 a2 a3)
  unfold split_CutM.f
  rw [hr, Option.bind_some, if_pos rfl, if_neg b0, wb, if_neg b1, if_neg (by omega), hA k hk, Option.bind_some, wn, hL k hk, Option.bind_some, hS k hk, Option.bind_some]
  dsimp only
  cases h1 : (ea == 0)
  · rw [if_neg (by decide), if_neg (fun z => by simpa using z.1)]
  rw [if_pos rfl]
  cases h2 : (el == 0)
  · rw [if_neg (by decide), if_neg (fun z => by simpa using z.1)]
  rw [if_pos rfl]
  cases h5 : (er == 0)
  · rw [if_neg (by decide), if_neg (fun z => by simpa using z.1)]
  rw [if_pos rfl, msize_f k (by omega) il1 il2 il3, Option.bind_some]
  by_cases x1 : sizeM l1 l2 l3 < leaf
  · rw [if_pos x1, if_neg (fun z => by have := z.2.1; omega)]
  rw [if_neg x1, msize_f k (by omega) ir1 ir2 ir3, Option.bind_some]
  by_cases x2 : sizeM r1 r2 r3 < leaf
  · rw [if_pos x2, if_neg (fun z => by have := z.2.2; omega)]
  rw [if_neg x2, e1, Option.bind_some, Fr.right_f, Option.bind_some]
  cases h6 : ((scoreM l1 l2 l3 r1 r2 r3).2.2 != 0)
  · rw [if_neg (by decide), if_neg (fun z => by simpa using z.1)]
  rw [if_pos rfl, e2, Option.bind_some, e3, Option.bind_some]
  by_cases x3 : fc (scoreM l1 l2 l3 r1 r2 r3) (aloneM a1 a2 a3) ≤ 0
  · rw [if_pos x3, if_neg (fun z => by have := z.1; simp at this; omega)]
  · rw [if_neg x3, if_pos ⟨by simp; omega, by omega, by omega⟩]
theorem cut_form {K B C : Int} {c3 : List Int} {c4 : List S54} (h3 : ∀ x ∈ c3, InI x) (h4 : ∀ m ∈ c4, InI m.f0 ∧ InI m.f1 ∧ InI m.f2) (bin : Int) :
    ∃ (A : Bool) (x y : Int) (f : Int × Int × Int), InF f ∧ (A = true → Rt K B C c3 c4 ∧ 0 ≤ bin ∧ bin < B - 1 ∧ f.2.2 ≠ 0) ∧ ∀ k, 70000 ≤ k → ∀ leaf, 1 ≤ leaf → split_Cut.f k K B C c3 c4 bin leaf = some (if A = true ∧ leaf ≤ x ∧ leaf ≤ y then (f.1, f.2.1, f.2.2, true) else (0, 0, 0, false)) := by
  unfold split_Cut.f
  by_cases h : K = 0
  · simp only [if_pos h]
    exact cutC h3 h4 bin
  · simp only [if_neg h]
    exact cutM h3 h4 bin
theorem fixed_f (k : Nat) (hk : 60 ≤ k) : hornbeamlaw16_fixed.f k = some true := at_rounds (g := fun k => hornbeamlaw16_fixed.f k) hornbeamlaw16_fixed.mono hk (by decide +kernel)
/-- What a cut of a histogram answers. -/
def cutD (h : S25) (bin leaf : Int) : Int × Int × Int × Bool := (split_Cut.f 70000 h.f0 h.f1 h.f2 h.f3 h.f4 bin leaf).getD (0, 0, 0, false)
def Wf (h : S25) : Prop := InI h.f1 ∧ (∀ x ∈ h.f3, InI x) ∧ (∀ m ∈ h.f4, InI m.f0 ∧ InI m.f1 ∧ InI m.f2)
def frD (c : Int × Int × Int × Bool) : Int × Int × Int := (c.1, c.2.1, c.2.2.1)
theorem cutD_f {h : S25} (hw : Wf h) (bin leaf : Int) (hl : 1 ≤ leaf) : (∀ k, 70000 ≤ k → split_Cut.f k h.f0 h.f1 h.f2 h.f3 h.f4 bin leaf = some (cutD h bin leaf)) ∧ ((cutD h bin leaf).2.2.2 = true → InF (frD (cutD h bin leaf)) ∧ 0 ≤ bin ∧ bin < h.f1 - 1 ∧ (cutD h bin leaf).2.2.1 ≠ 0) := by
  obtain ⟨A, x, y, f, hf, hA, hc⟩ := cut_form (K := h.f0) (B := h.f1) (C := h.f2) hw.2.1 hw.2.2 bin
  have e : cutD h bin leaf = if A = true ∧ leaf ≤ x ∧ leaf ≤ y then (f.1, f.2.1, f.2.2, true) else (0, 0, 0, false) := by
    unfold cutD; rw [hc 70000 (Nat.le_refl _) leaf hl]; rfl
  refine ⟨fun k hk => by rw [hc k hk leaf hl, e], fun h => ?_⟩
  rw [e] at h ⊢
  by_cases hh : A = true ∧ leaf ≤ x ∧ leaf ≤ y
  · rw [if_pos hh]
    obtain ⟨_, b0, b1, b2⟩ := hA hh.1
    exact ⟨hf, b0, b1, b2⟩
  · rw [if_neg hh] at h; cases h
theorem fc_anti (f g : Int × Int × Int) : fc g f = -fc f g := Fr.FC_anti _ _ _ _
theorem fc_up {c o p : Int × Int × Int} (hc : InF c) (ho : InF o) (hp : InF p) (h1 : fc c o ≤ 0) (h2 : 0 < fc p o) : fc c p < 0 := by
  have h3 := fc_anti c p
  by_cases h : fc c p < 0
  · exact h
  · have : fc p o ≤ 0 := Fr.FC_chain _ _ _ _ _ _ hp.2.2.1 hc.2.2.1 ho.2.2.1 (show fc p c ≤ 0 by omega) h1
    omega
/-- A candidate stands ahead of another one. -/
def Bef (j c i b : Int) : Prop := j < i ∨ (j = i ∧ c < b)
def ok (l : List S25) (leaf j c : Int) : Prop := (cutD (rd_T25 l j) c leaf).2.2.2 = true
def fr (l : List S25) (leaf j c : Int) : Int × Int × Int := frD (cutD (rd_T25 l j) c leaf)
/-- What is best of all candidates ahead of one. -/
def InvB (l : List S25) (leaf i b : Int) (T : Bool) (F bn n1 n2 n3 : Int) : Prop :=
  (T = false ∧ F = 0 ∧ bn = 0 ∧ n1 = 0 ∧ n2 = 0 ∧ n3 = 0 ∧ ∀ j c, 0 ≤ j → Bef j c i b → ¬ ok l leaf j c) ∨
  (T = true ∧ 0 ≤ F ∧ Bef F bn i b ∧ ok l leaf F bn ∧ fr l leaf F bn = (n1, n2, n3) ∧ ∀ j c, 0 ≤ j → Bef j c i b → ok l leaf j c → fc (fr l leaf j c) (n1, n2, n3) ≤ 0 ∧ (Bef j c F bn → fc (fr l leaf j c) (n1, n2, n3) < 0))
theorem Bef.succ {j c i b : Int} (h : Bef j c i (b + 1)) : Bef j c i b ∨ (j = i ∧ c = b) := by unfold Bef at *; omega
theorem Bef.more {j c i b : Int} (h : Bef j c i b) : Bef j c i (b + 1) := by unfold Bef at *; omega
theorem inv_skip {l : List S25} {leaf i b : Int} {T : Bool} {F bn n1 n2 n3 : Int} (I : InvB l leaf i b T F bn n1 n2 n3) (h : ¬ ok l leaf i b) : InvB l leaf i (b + 1) T F bn n1 n2 n3 := by
  rcases I with ⟨a1, a2, a3, a4, a5, a6, a7⟩ | ⟨a1, a2, a3, a4, a5, a6⟩
  · refine .inl ⟨a1, a2, a3, a4, a5, a6, fun j c j0 hb => ?_⟩
    rcases hb.succ with hb | ⟨rfl, rfl⟩
    · exact a7 j c j0 hb
    · exact h
  · refine .inr ⟨a1, a2, a3.more, a4, a5, fun j c j0 hb ho => ?_⟩
    rcases hb.succ with hb | ⟨rfl, rfl⟩
    · exact a6 j c j0 hb ho
    · exact absurd ho h
theorem inv_keep {l : List S25} {leaf i b : Int} {F bn n1 n2 n3 : Int} (I : InvB l leaf i b true F bn n1 n2 n3) (h : fc (fr l leaf i b) (n1, n2, n3) ≤ 0) : InvB l leaf i (b + 1) true F bn n1 n2 n3 := by
  rcases I with ⟨a1, _⟩ | ⟨a1, a2, a3, a4, a5, a6⟩
  · cases a1
  · refine .inr ⟨a1, a2, a3.more, a4, a5, fun j c j0 hb ho => ?_⟩
    rcases hb.succ with hb | ⟨rfl, rfl⟩
    · exact a6 j c j0 hb ho
    · refine ⟨h, fun hq => ?_⟩
      unfold Bef at hq a3; omega
theorem wf_rd {l : List S25} (hw : ∀ h ∈ l, Wf h) (j : Int) : Wf (rd_T25 l j) := by
  unfold rd_T25
  by_cases hj : j.toNat < l.length
  · rw [show l.getD j.toNat z25 = l[j.toNat] by simp [List.getD, hj]]; exact hw _ (List.getElem_mem _)
  · rw [show l.getD j.toNat z25 = z25 by simp [List.getD, List.getElem?_eq_none (by omega : l.length ≤ j.toNat)]]
    exact ⟨in0, fun x hx => (by cases hx), fun m hm => (by cases hm)⟩
theorem inF_fr {l : List S25} (hw : ∀ h ∈ l, Wf h) {leaf j c : Int} (hl : 1 ≤ leaf) (h : ok l leaf j c) : InF (fr l leaf j c) ∧ 0 ≤ c ∧ c < (rd_T25 l j).f1 - 1 := by
  have hm := (cutD_f (wf_rd hw j) c leaf hl).2 h
  exact ⟨hm.1, hm.2.1, hm.2.2.1⟩
theorem inv_new {l : List S25} (hw : ∀ h ∈ l, Wf h) {leaf i b : Int} {T : Bool} {F bn n1 n2 n3 : Int} (hl : 1 ≤ leaf) (i0 : 0 ≤ i) (I : InvB l leaf i b T F bn n1 n2 n3) (h : ok l leaf i b) (hn : T = true → 0 < fc (fr l leaf i b) (n1, n2, n3)) :
    InvB l leaf i (b + 1) true i b (fr l leaf i b).1 (fr l leaf i b).2.1 (fr l leaf i b).2.2 := by
  have hI := (inF_fr hw hl h).1
  refine .inr ⟨rfl, i0, by unfold Bef; omega, h, rfl, fun j c j0 hb ho => ?_⟩
  rcases hb.succ with hb | ⟨rfl, rfl⟩
  · rcases I with ⟨a1, a2, a3, a4, a5, a6, a7⟩ | ⟨a1, a2, a3, a4, a5, a6⟩
    · exact absurd ho (a7 j c j0 hb)
    · have hF := (inF_fr hw hl a4).1
      rw [a5] at hF
      have := fc_up (inF_fr hw hl ho).1 hF hI (a6 j c j0 hb ho).1 (hn a1)
      exact ⟨Int.le_of_lt this, fun _ => this⟩
  · refine ⟨Int.le_of_eq (Fr.FC_refl _ _), fun hq => ?_⟩
    unfold Bef at hq; omega
theorem inv_next {l : List S25} (hw : ∀ h ∈ l, Wf h) {leaf i : Int} {T : Bool} {F bn n1 n2 n3 : Int} (hl : 1 ≤ leaf) {b : Int} (hb : (rd_T25 l i).f1 - 1 ≤ b) (I : InvB l leaf i b T F bn n1 n2 n3) : InvB l leaf (i + 1) 0 T F bn n1 n2 n3 := by
  have key : ∀ j c, 0 ≤ j → Bef j c (i + 1) 0 → ok l leaf j c → Bef j c i b := fun j c j0 hq ho => by
    unfold Bef at hq ⊢
    rcases hq with hq | ⟨rfl, hq⟩
    · have := inF_fr hw hl ho
      by_cases hj : j = i
      · subst hj; omega
      · omega
    · have := inF_fr hw hl ho; omega
  rcases I with ⟨a1, a2, a3, a4, a5, a6, a7⟩ | ⟨a1, a2, a3, a4, a5, a6⟩
  · exact .inl ⟨a1, a2, a3, a4, a5, a6, fun j c j0 hq ho => a7 j c j0 (key j c j0 hq ho) ho⟩
  · refine .inr ⟨a1, a2, ?_, a4, a5, fun j c j0 hq ho => a6 j c j0 (key j c j0 hq ho) ho⟩
    unfold Bef at a3 ⊢; omega
theorem inv_inF {l : List S25} (hw : ∀ h ∈ l, Wf h) {leaf i b : Int} {F bn n1 n2 n3 : Int} (hl : 1 ≤ leaf) (I : InvB l leaf i b true F bn n1 n2 n3) : InF (n1, n2, n3) := by
  rcases I with ⟨a1, _⟩ | ⟨a1, a2, a3, a4, a5, a6⟩
  · cases a1
  · rw [← a5]; exact (inF_fr hw hl a4).1
def Done (l : List S25) (leaf : Int) (o : Option (Bool × Int × Int × Int × Int × Int × Int)) : Prop := ∃ T F bn n1 n2 n3, o = some (T, F, bn, n1, n2, n3, 0) ∧ InvB l leaf (l.length : Int) 0 T F bn n1 n2 n3
theorem best_l2 {l : List S25} (hw : ∀ h ∈ l, Wf h) {leaf : Int} (hl : 1 ≤ leaf) (pl : List Int) (hp : ∀ j : Int, 0 ≤ j → j < (l.length : Int) → rd pl j = j) (hpl : pl.length = l.length) (hn : l.length ≤ 1000000) (i : Int) (i0 : 0 ≤ i) (i1 : i < (l.length : Int)) (hB : (rd_T25 l i).f1 ≤ 257) (Kn : Nat) (hKn : 70000 ≤ Kn)
    (next : ∀ k T F bn n1 n2 n3, Kn < k → InvB l leaf (i + 1) 0 T F bn n1 n2 n3 → Done l leaf (split_Best.l1 k pl leaf l (l.length : Int) (i + 1) T F bn n1 n2 n3)) :
    ∀ (m : Nat) (b : Int) (k : Nat) (T : Bool) (F bn n1 n2 n3 : Int), b + m = (rd_T25 l i).f1 - 1 → 0 ≤ b → Kn + m + 1 < k → InvB l leaf i b T F bn n1 n2 n3 → Done l leaf (split_Best.l2 k pl leaf i l (l.length : Int) i ((rd_T25 l i).f1 - 1) b T F bn n1 n2 n3 (rd_T25 l i).f0 (rd_T25 l i).f1 (rd_T25 l i).f2 (rd_T25 l i).f3 (rd_T25 l i).f4)
  | 0, b, k + 1, T, F, bn, n1, n2, n3, h, b0, hk, I => by
    rw [split_Best.l2, if_neg (by omega), wrap64_id (n := i + 1) (by omega) (by omega)]
    exact next k _ _ _ _ _ _ (by omega) (inv_next hw hl (by omega) I)
  | m + 1, b, k + 1, T, F, bn, n1, n2, n3, h, b0, hk, I => by
    have rec_ := fun T F bn n1 n2 n3 => best_l2 hw hl pl hp hpl hn i i0 i1 hB Kn hKn next m (b + 1) k T F bn n1 n2 n3 (by omega) (by omega) (by omega)
    rw [split_Best.l2, if_pos (by omega), (cutD_f (wf_rd hw i) b leaf hl).1 k (by omega), Option.bind_some, wrap64_id (n := b + 1) (by omega) (by omega)]
    by_cases ho : ok l leaf i b
    · have ho' : (cutD (rd_T25 l i) b leaf).2.2.2 = true := ho
      rw [if_pos ho']
      cases T with
      | false =>
        rw [if_neg (by decide), if_pos i0, if_pos (by omega), hp i i0 i1]
        exact rec_ _ _ _ _ _ _ (inv_new hw hl i0 I ho (fun h => by cases h))
      | true =>
        have e3 : frac_Cmp.f k (cutD (rd_T25 l i) b leaf).1 (cutD (rd_T25 l i) b leaf).2.1 (cutD (rd_T25 l i) b leaf).2.2.1 n1 n2 n3 = some (fc (fr l leaf i b) (n1, n2, n3)) := fc_f k (by omega) (inF_fr hw hl ho).1 (inv_inF hw hl I)
        rw [if_pos rfl, e3, Option.bind_some]
        by_cases hc : fc (fr l leaf i b) (n1, n2, n3) > 0
        · rw [if_pos hc, if_pos i0, if_pos (by omega), hp i i0 i1]
          exact rec_ _ _ _ _ _ _ (inv_new hw hl i0 I ho (fun _ => hc))
        · rw [if_neg hc]
          exact rec_ _ _ _ _ _ _ (inv_keep I (by omega))
    · have ho' : ¬ (cutD (rd_T25 l i) b leaf).2.2.2 = true := ho
      rw [if_neg ho']
      exact rec_ _ _ _ _ _ _ (inv_skip I ho)
theorem best_l1 {l : List S25} (hw : ∀ h ∈ l, Wf h) {leaf : Int} (hl : 1 ≤ leaf) (pl : List Int) (hp : ∀ j : Int, 0 ≤ j → j < (l.length : Int) → rd pl j = j) (hpl : pl.length = l.length) (hn : l.length ≤ 1000000) (hR : ∀ j : Int, 0 ≤ j → j < (l.length : Int) → 1 ≤ (rd_T25 l j).f1 ∧ (rd_T25 l j).f1 ≤ 257) :
    ∀ (m : Nat) (i : Int) (k : Nat) (T : Bool) (F bn n1 n2 n3 : Int), i + m = (l.length : Int) → 0 ≤ i → 70000 + 300 * m < k → InvB l leaf i 0 T F bn n1 n2 n3 → Done l leaf (split_Best.l1 k pl leaf l (l.length : Int) i T F bn n1 n2 n3)
  | 0, i, k + 1, T, F, bn, n1, n2, n3, h, i0, hk, I => by
    rw [split_Best.l1, if_neg (by omega)]
    have hi : i = (l.length : Int) := by omega
    rw [hi] at I
    exact ⟨_, _, _, _, _, _, rfl, I⟩
  | m + 1, i, k + 1, T, F, bn, n1, n2, n3, h, i0, hk, I => by
    obtain ⟨B0, B1⟩ := hR i i0 (by omega)
    rw [split_Best.l1, if_pos (by omega), if_pos i0, if_pos (by omega), wrap64_id (n := (rd_T25 l i).f1 - 1) (by omega) (by omega)]
    exact best_l2 hw hl pl hp hpl hn i i0 (by omega) B1 (70000 + 300 * m) (by omega) (fun k T F bn n1 n2 n3 hk I => best_l1 hw hl pl hp hpl hn hR m (i + 1) k T F bn n1 n2 n3 (by omega) (by omega) hk I) ((rd_T25 l i).f1 - 1).toNat 0 k T F bn n1 n2 n3 (by omega) (Int.le_refl _) (by omega) I
theorem best_l0 {l : List S25} (leaf : Int) (hl : 1 ≤ leaf) (pl : List Int) (hn : l.length ≤ 1000000) (hR : ∀ j : Int, 0 ≤ j → j < (l.length : Int) → Rt (rd_T25 l j).f0 (rd_T25 l j).f1 (rd_T25 l j).f2 (rd_T25 l j).f3 (rd_T25 l j).f4) (K : Nat) (P : Option (Bool × Int × Int × Int × Int × Int × Int) → Prop) (hP : ∀ k, K < k → P (split_Best.l1 k pl leaf l (l.length : Int) 0 false 0 0 0 0 0)) :
    ∀ (m : Nat) (i : Int) (k : Nat), i + m = (l.length : Int) → 0 ≤ i → K + m + 1 < k → P (split_Best.l0 k pl l leaf l (l.length : Int) i)
  | 0, i, k + 1, h, i0, hk => by
    rw [split_Best.l0, if_neg (by omega), if_neg (by omega)]
    exact hP k (by omega)
  | m + 1, i, k + 1, h, i0, hk => by
    obtain ⟨r, hr, hiff⟩ := right_f (rd_T25 l i).f0 (rd_T25 l i).f1 (rd_T25 l i).f2 (rd_T25 l i).f3 (rd_T25 l i).f4
    rw [split_Best.l0, if_pos (by omega), if_pos i0, if_pos (by omega), hr, hiff.2 (hR i i0 (by omega)), Option.bind_some, if_pos rfl, wrap64_id (n := i + 1) (by omega) (by omega)]
    exact best_l0 leaf hl pl hn hR K P hP m (i + 1) k (by omega) (by omega) (by omega)
theorem inv_start {l : List S25} (hw : ∀ h ∈ l, Wf h) {leaf : Int} (hl : 1 ≤ leaf) : InvB l leaf 0 0 false 0 0 0 0 0 :=
  .inl ⟨rfl, rfl, rfl, rfl, rfl, rfl, fun j c j0 hb ho => by
    have := inF_fr hw hl ho
    unfold Bef at hb; omega⟩
theorem best_f {l : List S25} (hw : ∀ h ∈ l, Wf h) {leaf : Int} (hl : 1 ≤ leaf) (pl : List Int) (hp : ∀ j : Int, 0 ≤ j → j < (l.length : Int) → rd pl j = j) (hpl : pl.length = l.length) (hn : l.length ≤ 8) (hR : ∀ j : Int, 0 ≤ j → j < (l.length : Int) → Rt (rd_T25 l j).f0 (rd_T25 l j).f1 (rd_T25 l j).f2 (rd_T25 l j).f3 (rd_T25 l j).f4) (k : Nat) (hk : 80000 ≤ k) : Done l leaf (split_Best.f k pl l leaf) := by
  unfold split_Best.f
  rw [if_pos (by omega)]
  exact best_l0 leaf hl pl (by omega) hR 75000 (Done l leaf) (fun k hk => best_l1 hw hl pl hp hpl (by omega) (fun j j0 j1 => (hR j j0 j1).1) l.length 0 k false 0 0 0 0 0 (by omega) (Int.le_refl _) (by omega) (inv_start hw hl)) l.length 0 k (by omega) (Int.le_refl _) (by omega)
theorem rright_f (k : Nat) (hk : 1 ≤ k) (K B C : Int) (l3 : List Int) (l4 : List S54) : ∃ r, hornbeamref12_Right.f k K B C l3 l4 = some r ∧ (r = true ↔ Rt K B C l3 l4) := by
  obtain ⟨k, rfl⟩ : ∃ q, k = q + 1 := ⟨k - 1, by omega⟩
  unfold hornbeamref12_Right.f hornbeamref12_May.f Rt
  have no : ∀ p : Prop, ¬ p → ∃ r, some false = some r ∧ (r = true ↔ p) := fun p hp => ⟨_, rfl, ⟨fun h => (by cases h), fun h => absurd h hp⟩⟩
  by_cases h1 : B < 1
  · rw [if_pos h1, hornbeamref12_May.j0, if_pos rfl, Option.bind_some, if_neg (by decide)]; exact no _ (by omega)
  rw [if_neg h1]
  by_cases h2 : B > 257
  · rw [decide_eq_true h2, hornbeamref12_May.j0, if_pos rfl, Option.bind_some, if_neg (by decide)]; exact no _ (by omega)
  rw [decide_eq_false h2, hornbeamref12_May.j0, if_neg (by decide)]
  by_cases h3 : K = 0
  · subst h3
    rw [if_pos rfl]
    by_cases h4 : C ≥ 2
    · rw [if_pos h4, Option.bind_some]
      by_cases h5 : C ≤ 256
      · obtain ⟨a0, a1⟩ := area (B := B) (C := C) (by omega) (by omega) (by omega) h5
        rw [decide_eq_true h5, if_pos rfl, if_pos rfl, wrap64_id (by omega) (by omega)]
        by_cases h6 : (l3.length : Int) = B * C
        · rw [if_pos h6]; exact ⟨_, rfl, by rw [beq_iff_eq]; omega⟩
        · rw [if_neg h6]; exact no _ (by omega)
      · rw [decide_eq_false h5, if_neg (by decide)]; exact no _ (by omega)
    · rw [if_neg h4, Option.bind_some, if_neg (by decide)]; exact no _ (by omega)
  · rw [if_neg h3]
    by_cases h4 : K = 1
    · subst h4
      rw [if_pos rfl, Option.bind_some]
      by_cases h5 : C = 0
      · subst h5
        rw [if_pos (by decide), if_neg (by decide)]
        by_cases h6 : (l3.length : Int) = 0
        · rw [if_pos h6]; exact ⟨_, rfl, by rw [beq_iff_eq]; omega⟩
        · rw [if_neg h6]; exact no _ (by omega)
      · rw [if_neg (by simpa using h5)]; exact no _ (by omega)
    · rw [if_neg h4, Option.bind_some, if_neg (by decide)]; exact no _ (by omega)
theorem great_l (l : List S25) : ∀ (m i k : Nat), i + m = l.length → m < k → l.length ≤ 8 → ∃ r, hornbeamlaw16_great.l0 k l (l.length : Int) (i : Int) = some r
  | 0, i, k + 1, h, _, _ => by rw [hornbeamlaw16_great.l0, if_neg (by omega)]; exact ⟨_, rfl⟩
  | m + 1, i, k + 1, h, hk, h8 => by
    rw [hornbeamlaw16_great.l0, if_pos (by omega), if_pos (by omega), if_pos (by omega), wrap64_id (n := (i : Int) + 1) (by omega) (by omega)]
    split
    · exact ⟨_, rfl⟩
    · split
      · exact ⟨_, rfl⟩
      · exact great_l l m (i + 1) k (by omega) (by omega) h8
theorem great_f (l : List S25) (k : Nat) (hk : 10 ≤ k) : ∃ r, hornbeamlaw16_great.f k l = some r ∧ (r = false → l.length ≤ 8) := by
  unfold hornbeamlaw16_great.f
  by_cases h : (l.length : Int) > 8
  · rw [if_pos h]; exact ⟨_, rfl, fun z => by cases z⟩
  · rw [if_neg h]
    obtain ⟨r, e⟩ := great_l l l.length 0 k (by omega) (by omega) (by omega)
    exact ⟨r, e, fun _ => by omega⟩
theorem rd_snoc {x : List Int} {i : Nat} (hx : x.length = i) (h : ∀ j : Int, 0 ≤ j → j < (i : Int) → rd x j = j) : ∀ j : Int, 0 ≤ j → j < ((i + 1 : Nat) : Int) → rd (x ++ [(i : Int)]) j = j := by
  intro j j0 j1
  unfold rd at h ⊢
  by_cases hj : j.toNat < i
  · rw [show (x ++ [(i : Int)]).getD j.toNat 0 = x.getD j.toNat 0 by simp [List.getD, List.getElem?_append_left (by omega : j.toNat < x.length)]]; exact h j j0 (by omega)
  · have hj2 : j.toNat = x.length := by omega
    rw [show (x ++ [(i : Int)]).getD j.toNat 0 = (i : Int) by simp [List.getD, hj2]]
    omega
theorem valC {K B C : Int} {c3 : List Int} {c4 : List S54} (hR : Rt K B C c3 c4) (bin : Int) (g0 : 0 ≤ bin) (g1 : bin < B - 1) {a : List Int} {a1 a2 a3 ea : Int} {l : List Int} {l1 l2 l3 el : Int} {r : List Int} {r1 r2 r3 er : Int}
    (Ha : ∀ k, 70000 ≤ k → hist_Sum.f k K B C c3 c4 0 B = some (a, a1, a2, a3, ea)) (Hl : ∀ k, 70000 ≤ k → hist_Sum.f k K B C c3 c4 0 (bin + 1) = some (l, l1, l2, l3, el)) (Hr : ∀ k, 70000 ≤ k → hist_Sum.f k K B C c3 c4 (bin + 1) B = some (r, r1, r2, r3, er)) (k : Nat) (hk : 70000 ≤ k) (leaf : Int) (hl : 1 ≤ leaf) :
    split_CutC.f k K B C c3 c4 bin leaf = some (if ((ea == 0) && ((el == 0) && ((er == 0) && (((Gi.scoreD l r).2.2 != 0) && decide (0 < fc (Gi.scoreD l r) (Gi.aloneD a)))))) = true ∧ leaf ≤ (sizeC l) ∧ leaf ≤ (sizeC r) then ((Gi.scoreD l r).1, (Gi.scoreD l r).2.1, (Gi.scoreD l r).2.2, true) else (0, 0, 0, false)) := by
  obtain ⟨rr, hr, hiff⟩ := right_f K B C c3 c4
  have : rr = true := hiff.2 hR
  subst this
  have hb := hR.1
  have b0 : ¬ bin < 0 := by omega
  have wb : wrap64 (B - 1) = B - 1 := wrap64_id (by omega) (by omega)
  have b1 : ¬ bin ≥ B - 1 := by omega
  have wn : wrap64 (bin + 1) = bin + 1 := wrap64_id (by omega) (by omega)
  have hA : ∀ k, 70000 ≤ k → split_binsC.f k K B C c3 c4 0 B = some (a, ea == 0) := fun k hk => by unfold split_binsC.f; rw [Ha k hk, Option.bind_some]
  have hL : ∀ k, 70000 ≤ k → split_binsC.f k K B C c3 c4 0 (bin + 1) = some (l, el == 0) := fun k hk => by unfold split_binsC.f; rw [Hl k hk, Option.bind_some]
  have hS : ∀ k, 70000 ≤ k → split_binsC.f k K B C c3 c4 (bin + 1) B = some (r, er == 0) := fun k hk => by unfold split_binsC.f; rw [Hr k hk, Option.bind_some]
  have e1 : split_classes_score.f k l r = some (Gi.scoreD l r) := by unfold split_classes_score.f; rw [Gi.score_f l r k (by omega), Option.bind_some]
  have e2 : split_classes_alone.f k a = some (Gi.aloneD a) := by unfold split_classes_alone.f; rw [Gi.alone_f a k (by omega), Option.bind_some]
  have e3 := fc_f k (by omega) (inF_scoreC l r) (inF_aloneC a)
  unfold split_CutC.f
  rw [hr, Option.bind_some, if_pos rfl, if_neg b0, wb, if_neg b1, if_neg (by omega), hA k hk, Option.bind_some, wn, hL k hk, Option.bind_some, hS k hk, Option.bind_some]
  dsimp only
  cases h1 : (ea == 0)
  · rw [if_neg (by decide), if_neg (fun z => by simpa using z.1)]
  rw [if_pos rfl]
  cases h2 : (el == 0)
  · rw [if_neg (by decide), if_neg (fun z => by simpa using z.1)]
  rw [if_pos rfl]
  cases h5 : (er == 0)
  · rw [if_neg (by decide), if_neg (fun z => by simpa using z.1)]
  rw [if_pos rfl, csize_f l k (by omega), Option.bind_some]
  by_cases x1 : sizeC l < leaf
  · rw [if_pos x1, if_neg (fun z => by have := z.2.1; omega)]
  rw [if_neg x1, csize_f r k (by omega), Option.bind_some]
  by_cases x2 : sizeC r < leaf
  · rw [if_pos x2, if_neg (fun z => by have := z.2.2; omega)]
  rw [if_neg x2, e1, Option.bind_some, Fr.right_f, Option.bind_some]
  cases h6 : ((Gi.scoreD l r).2.2 != 0)
  · rw [if_neg (by decide), if_neg (fun z => by simpa using z.1)]
  rw [if_pos rfl, e2, Option.bind_some, e3, Option.bind_some]
  by_cases x3 : fc (Gi.scoreD l r) (Gi.aloneD a) ≤ 0
  · rw [if_pos x3, if_neg (fun z => by have := z.1; simp at this; omega)]
  · rw [if_neg x3, if_pos ⟨by simp; omega, by omega, by omega⟩]
theorem valM {K B C : Int} {c3 : List Int} {c4 : List S54} (hR : Rt K B C c3 c4) (bin : Int) (g0 : 0 ≤ bin) (g1 : bin < B - 1) {a : List Int} {a1 a2 a3 ea : Int} {l : List Int} {l1 l2 l3 el : Int} {r : List Int} {r1 r2 r3 er : Int}
    (Ha : ∀ k, 70000 ≤ k → hist_Sum.f k K B C c3 c4 0 B = some (a, a1, a2, a3, ea)) (ia1 : InI a1) (ia2 : InI a2) (ia3 : InI a3) (Hl : ∀ k, 70000 ≤ k → hist_Sum.f k K B C c3 c4 0 (bin + 1) = some (l, l1, l2, l3, el)) (il1 : InI l1) (il2 : InI l2) (il3 : InI l3) (Hr : ∀ k, 70000 ≤ k → hist_Sum.f k K B C c3 c4 (bin + 1) B = some (r, r1, r2, r3, er)) (ir1 : InI r1) (ir2 : InI r2) (ir3 : InI r3) (k : Nat) (hk : 70000 ≤ k) (leaf : Int) (hl : 1 ≤ leaf) :
    split_CutM.f k K B C c3 c4 bin leaf = some (if ((ea == 0) && ((el == 0) && ((er == 0) && (((scoreM l1 l2 l3 r1 r2 r3).2.2 != 0) && decide (0 < fc (scoreM l1 l2 l3 r1 r2 r3) (aloneM a1 a2 a3)))))) = true ∧ leaf ≤ (sizeM l1 l2 l3) ∧ leaf ≤ (sizeM r1 r2 r3) then ((scoreM l1 l2 l3 r1 r2 r3).1, (scoreM l1 l2 l3 r1 r2 r3).2.1, (scoreM l1 l2 l3 r1 r2 r3).2.2, true) else (0, 0, 0, false)) := by
  obtain ⟨rr, hr, hiff⟩ := right_f K B C c3 c4
  have : rr = true := hiff.2 hR
  subst this
  have hb := hR.1
  have b0 : ¬ bin < 0 := by omega
  have wb : wrap64 (B - 1) = B - 1 := wrap64_id (by omega) (by omega)
  have b1 : ¬ bin ≥ B - 1 := by omega
  have wn : wrap64 (bin + 1) = bin + 1 := wrap64_id (by omega) (by omega)
  have hA : ∀ k, 70000 ≤ k → split_binsM.f k K B C c3 c4 0 B = some (a1, a2, a3, ea == 0) := fun k hk => by unfold split_binsM.f; rw [Ha k hk, Option.bind_some]
  have hL : ∀ k, 70000 ≤ k → split_binsM.f k K B C c3 c4 0 (bin + 1) = some (l1, l2, l3, el == 0) := fun k hk => by unfold split_binsM.f; rw [Hl k hk, Option.bind_some]
  have hS : ∀ k, 70000 ≤ k → split_binsM.f k K B C c3 c4 (bin + 1) B = some (r1, r2, r3, er == 0) := fun k hk => by unfold split_binsM.f; rw [Hr k hk, Option.bind_some]
  have e1 : split_means_score.f k l1 l2 l3 r1 r2 r3 = some (scoreM l1 l2 l3 r1 r2 r3) := by unfold split_means_score.f; rw [Sp.score_f k (by omega) il1 il2 il3 ir1 ir2 ir3, Option.bind_some]; rfl
  have e2 : split_means_alone.f k a1 a2 a3 = some (aloneM a1 a2 a3) := by unfold split_means_alone.f; rw [Sp.alone_f k (by omega) ia1 ia2 ia3, Option.bind_some]; rfl
  have e3 := fc_f k (by omega) (inF_scoreM l1 l2 l3 r1 r2 r3) (inF_aloneM a1 a2 a3)
  unfold split_CutM.f
  rw [hr, Option.bind_some, if_pos rfl, if_neg b0, wb, if_neg b1, if_neg (by omega), hA k hk, Option.bind_some, wn, hL k hk, Option.bind_some, hS k hk, Option.bind_some]
  dsimp only
  cases h1 : (ea == 0)
  · rw [if_neg (by decide), if_neg (fun z => by simpa using z.1)]
  rw [if_pos rfl]
  cases h2 : (el == 0)
  · rw [if_neg (by decide), if_neg (fun z => by simpa using z.1)]
  rw [if_pos rfl]
  cases h5 : (er == 0)
  · rw [if_neg (by decide), if_neg (fun z => by simpa using z.1)]
  rw [if_pos rfl, msize_f k (by omega) il1 il2 il3, Option.bind_some]
  by_cases x1 : sizeM l1 l2 l3 < leaf
  · rw [if_pos x1, if_neg (fun z => by have := z.2.1; omega)]
  rw [if_neg x1, msize_f k (by omega) ir1 ir2 ir3, Option.bind_some]
  by_cases x2 : sizeM r1 r2 r3 < leaf
  · rw [if_pos x2, if_neg (fun z => by have := z.2.2; omega)]
  rw [if_neg x2, e1, Option.bind_some, Fr.right_f, Option.bind_some]
  cases h6 : ((scoreM l1 l2 l3 r1 r2 r3).2.2 != 0)
  · rw [if_neg (by decide), if_neg (fun z => by simpa using z.1)]
  rw [if_pos rfl, e2, Option.bind_some, e3, Option.bind_some]
  by_cases x3 : fc (scoreM l1 l2 l3 r1 r2 r3) (aloneM a1 a2 a3) ≤ 0
  · rw [if_pos x3, if_neg (fun z => by have := z.1; simp at this; omega)]
  · rw [if_neg x3, if_pos ⟨by simp; omega, by omega, by omega⟩]
open hornbeamlaw16_SplitTimes (okC okM mulC mulM mulH own tot idx small good same)
def nm (f : Int × Int × Int) : Int := f.1 * 18446744073709551616 + f.2.1
/-- What two cuts answer: the one's fraction is the other's, times m. -/
def Sc (m : Int) (x y : Int × Int × Int × Bool) : Prop := y.2.2.2 = x.2.2.2 ∧ nm (y.1, y.2.1, y.2.2.1) = nm (x.1, x.2.1, x.2.2.1) * (m * m * m) ∧ y.2.2.1 = x.2.2.1 * (m * m)
theorem Sc.zero (m : Int) : Sc m (0, 0, 0, false) (0, 0, 0, false) := ⟨rfl, by simp [nm], by simp⟩
theorem cmpI_mul {x y t : Int} (ht : 0 < t) : cmpI (x * t) (y * t) = cmpI x y := by
  rcases Fr.cmpI_cases x y with ⟨h, g⟩ | ⟨h, g⟩ | ⟨h, g⟩
  · rw [h]; unfold cmpI; rw [if_pos (Int.mul_lt_mul_of_pos_right g ht)]
  · rw [h, g]; unfold cmpI; rw [if_neg (by omega), if_neg (by omega)]
  · rw [h]; unfold cmpI; have := Int.mul_lt_mul_of_pos_right g ht; rw [if_neg (by omega), if_pos this]
theorem mul_zero_iff {d q : Int} (hq : 0 < q) : d * q = 0 ↔ d = 0 := by
  constructor
  · intro h
    rcases Int.mul_eq_zero.1 h with h | h
    · exact h
    · omega
  · intro h; rw [h, Int.zero_mul]
theorem FC_sc (n d n' d' p q p' q' : Int) (hq : 0 < q) (hq' : 0 < q') (hp : p * q' = p' * q) (h0 : 0 < p * q') : Fr.FC (n * p) (d * q) (n' * p') (d' * q') = Fr.FC n d n' d' := by
  unfold Fr.FC
  by_cases hd : d = 0
  · rw [if_pos ((mul_zero_iff hq).2 hd), if_pos hd]
    by_cases he : d' = 0
    · rw [if_pos ((mul_zero_iff hq').2 he), if_pos he]
    · rw [if_neg (fun z => he ((mul_zero_iff hq').1 z)), if_neg he]
  · rw [if_neg (fun z => hd ((mul_zero_iff hq).1 z)), if_neg hd]
    by_cases he : d' = 0
    · rw [if_pos ((mul_zero_iff hq').2 he), if_pos he]
    · rw [if_neg (fun z => he ((mul_zero_iff hq').1 z)), if_neg he, show n * p * (d' * q') = n * d' * (p * q') by ac_rfl, show n' * p' * (d * q) = n' * d * (p' * q) by ac_rfl, ← hp, cmpI_mul h0]
def V (S A : Int × Int × Int) (x y : Int) : Int × Int × Int × Bool := if ((S.2.2 != 0) && decide (0 < fc S A)) = true ∧ 1 ≤ x ∧ 1 ≤ y then (S.1, S.2.1, S.2.2, true) else (0, 0, 0, false)
theorem V_sc {S A S' A' : Int × Int × Int} {x y x' y' m : Int} (m1 : 1 ≤ m) (hS : nm S' = nm S * (m * m * m)) (dS : S'.2.2 = S.2.2 * (m * m)) (hA : nm A' = nm A * (m * m)) (dA : A'.2.2 = A.2.2 * m) (hx : S.2.2 ≠ 0 → (1 ≤ x ∧ 1 ≤ y) ∧ 1 ≤ x' ∧ 1 ≤ y') : Sc m (V S A x y) (V S' A' x' y') := by
  have m2 : 0 < m * m := Int.mul_pos (by omega) (by omega)
  have m3 : 0 < m * m * m := Int.mul_pos m2 (by omega)
  have m4 : 0 < m * m * m * m := Int.mul_pos m3 (by omega)
  have ef : fc S' A' = fc S A := by
    show Fr.FC (nm S') S'.2.2 (nm A') A'.2.2 = Fr.FC (nm S) S.2.2 (nm A) A.2.2
    rw [hS, dS, hA, dA]
    exact FC_sc _ _ _ _ _ _ _ _ m2 (by omega) (by ac_rfl) m4
  unfold V
  rw [ef]
  by_cases z : S.2.2 = 0
  · rw [if_neg (fun w => by have := w.1; simp [z] at this), if_neg (fun w => by have := w.1; simp [dS, z] at this)]; exact Sc.zero m
  · have z' : S'.2.2 ≠ 0 := by rw [dS]; exact fun w => z ((mul_zero_iff m2).1 w)
    obtain ⟨h1, h2⟩ := hx z
    by_cases f0 : 0 < fc S A
    · rw [if_pos ⟨by simp [z, f0], h1⟩, if_pos ⟨by simp [z', f0], h2⟩]; exact ⟨rfl, hS, dS⟩
    · rw [if_neg (fun w => by have := w.1; simp [f0] at this), if_neg (fun w => by have := w.1; simp [f0] at this)]; exact Sc.zero m
theorem S1_map (m : Int) (l : List Int) : S1 (l.map (· * m)) = S1 l * m := by
  induction l with
  | nil => simp [S1]
  | cons x l ih => rw [List.map_cons, S1, S1, ih, Int.add_mul]
theorem S2_map (m : Int) (l : List Int) : S2 (l.map (· * m)) = S2 l * (m * m) := by
  induction l with
  | nil => simp [S2]
  | cons x l ih => rw [List.map_cons, S2, S2, ih, Int.add_mul]; congr 1; ac_rfl
theorem le_mul {T m : Int} (h : 0 ≤ T) (m1 : 1 ≤ m) : T ≤ T * m := by
  have := Int.mul_le_mul_of_nonneg_left m1 h
  omega
theorem wide_nm (x d : Int) : nm (x / 18446744073709551616, x % 18446744073709551616, d) = x := by show x / 18446744073709551616 * 18446744073709551616 + x % 18446744073709551616 = x; omega
theorem mayG {l : List Int} {T m : Int} (m1 : 1 ≤ m) (hT : T * m ≤ 1048576) (hl : 2 ≤ l.length ∧ l.length ≤ 256) (nl : ∀ x ∈ l, 0 ≤ x) (sl : S1 l ≤ T) : Gi.MayG l ∧ Gi.MayG (l.map (· * m)) := by
  have s0 := Gi.S1_nonneg nl
  have := le_mul (show 0 ≤ T by omega) m1
  have := Int.mul_le_mul_of_nonneg_right sl (show 0 ≤ m by omega)
  refine ⟨⟨hl.1, hl.2, nl, by omega⟩, by simpa using hl.1, by simpa using hl.2, fun x hx => ?_, by rw [S1_map]; omega⟩
  obtain ⟨z, hz, rfl⟩ := List.mem_map.1 hx
  exact Int.mul_nonneg (nl z hz) (by omega)
theorem scC {a l r : List Int} {T m : Int} (m1 : 1 ≤ m) (hT : T * m ≤ 1048576) (la : 2 ≤ a.length ∧ a.length ≤ 256) (ll : l.length = a.length) (lr : r.length = a.length) (na : ∀ x ∈ a, 0 ≤ x) (nl : ∀ x ∈ l, 0 ≤ x) (nr : ∀ x ∈ r, 0 ≤ x) (sa : S1 a ≤ T) (sl : S1 l ≤ T) (sr : S1 r ≤ T) :
    Sc m (V (Gi.scoreD l r) (Gi.aloneD a) (sizeC l) (sizeC r)) (V (Gi.scoreD (l.map (· * m)) (r.map (· * m))) (Gi.aloneD (a.map (· * m))) (sizeC (l.map (· * m))) (sizeC (r.map (· * m)))) := by
  obtain ⟨ga, ga'⟩ := mayG m1 hT la na sa
  obtain ⟨gl, gl'⟩ := mayG m1 hT (by omega) nl sl
  obtain ⟨gr, gr'⟩ := mayG m1 hT (by omega) nr sr
  have m0 : 0 < m := by omega
  have nz : ∀ x : Int, x * m ≠ 0 ↔ x ≠ 0 := fun x => not_congr (mul_zero_iff m0)
  have hA : nm (Gi.aloneD (a.map (· * m))) = nm (Gi.aloneD a) * (m * m) ∧ (Gi.aloneD (a.map (· * m))).2.2 = (Gi.aloneD a).2.2 * m := by
    unfold Gi.aloneD
    by_cases z : S1 a = 0
    · rw [if_neg (fun w => w.2 (by rw [S1_map, z, Int.zero_mul])), if_neg (fun w => w.2 z)]; simp [nm]
    · rw [if_pos ⟨ga', by rw [S1_map]; exact (nz _).2 z⟩, if_pos ⟨ga, z⟩]; simp [nm, S1_map, S2_map]
  have hS : nm (Gi.scoreD (l.map (· * m)) (r.map (· * m))) = nm (Gi.scoreD l r) * (m * m * m) ∧ (Gi.scoreD (l.map (· * m)) (r.map (· * m))).2.2 = (Gi.scoreD l r).2.2 * (m * m) ∧ ((Gi.scoreD l r).2.2 ≠ 0 → S1 l ≠ 0 ∧ S1 r ≠ 0) := by
    unfold Gi.scoreD
    by_cases z : S1 l ≠ 0 ∧ S1 r ≠ 0
    · rw [if_pos (show Gi.Sides l r from ⟨gl, gr, by omega, z.1, z.2⟩), if_pos (show Gi.Sides (l.map (· * m)) (r.map (· * m)) from ⟨gl', gr', by simp; omega, by rw [S1_map]; exact (nz _).2 z.1, by rw [S1_map]; exact (nz _).2 z.2⟩), wide_nm, wide_nm]
      refine ⟨?_, ?_, fun _ => z⟩
      · unfold Gi.upper; rw [S1_map, S1_map, S2_map, S2_map, Int.add_mul]; congr 1 <;> ac_rfl
      · show S1 (l.map (· * m)) * S1 (r.map (· * m)) = S1 l * S1 r * (m * m); rw [S1_map, S1_map]; ac_rfl
    · rw [if_neg (show ¬ Gi.Sides l r from fun w => z ⟨w.2.2.2.1, w.2.2.2.2⟩), if_neg (show ¬ Gi.Sides (l.map (· * m)) (r.map (· * m)) from fun w => z ⟨(nz _).1 (by rw [← S1_map]; exact w.2.2.2.1), (nz _).1 (by rw [← S1_map]; exact w.2.2.2.2)⟩)]
      exact ⟨by simp [nm], by simp, fun w => absurd rfl w⟩
  refine V_sc m1 hS.1 hS.2.1 hA.1 hA.2 (fun z => ?_)
  obtain ⟨z1, z2⟩ := hS.2.2 z
  have s1 := Gi.S1_nonneg nl
  have s2 := Gi.S1_nonneg nr
  have t1 := le_mul s1 m1
  have t2 := le_mul s2 m1
  unfold sizeC
  rw [if_pos gl, if_pos gr, if_pos gl', if_pos gr', S1_map, S1_map]
  omega
/-- Moments' sums within the limits. -/
def Wb (T c s q : Int) : Prop := (0 ≤ c ∧ c ≤ T) ∧ (-(1048576 * c) ≤ s ∧ s ≤ 1048576 * c) ∧ 0 ≤ q ∧ q ≤ 1099511627776 * c
theorem Wb.mul {T m c s q : Int} (m1 : 1 ≤ m) (w : Wb T c s q) : Wb (T * m) (c * m) (s * m) (q * m) := by
  obtain ⟨⟨w1, w2⟩, ⟨w3, w4⟩, w5, w6⟩ := w
  have m0 : 0 ≤ m := by omega
  have a := Int.mul_le_mul_of_nonneg_right w2 m0
  have b := Int.mul_le_mul_of_nonneg_right w3 m0
  have c' := Int.mul_le_mul_of_nonneg_right w4 m0
  have d := Int.mul_le_mul_of_nonneg_right w6 m0
  rw [Int.neg_mul, Int.mul_assoc] at b
  rw [Int.mul_assoc] at c' d
  exact ⟨⟨Int.mul_nonneg w1 m0, a⟩, ⟨b, c'⟩, Int.mul_nonneg w5 m0, d⟩
theorem mayP {T c s q : Int} (hT : T ≤ 1048576) (w : Wb T c s q) : (0 < c ∧ Sp.MayP c s q) ↔ (0 < c ∧ s * s ≤ c * q) := by
  obtain ⟨⟨w1, w2⟩, ⟨w3, w4⟩, w5, w6⟩ := w
  unfold Sp.MayP
  constructor
  · rintro ⟨h, h2⟩
    refine ⟨h, ?_⟩
    rcases h2 with h2 | h2
    · omega
    · exact h2.2.2.2.2.2.2
  · rintro ⟨h, h2⟩
    exact ⟨h, .inr ⟨by omega, by omega, w5, w6, w3, w4, h2⟩⟩
theorem mayP_mul {T m c s q : Int} (m1 : 1 ≤ m) (hT : T * m ≤ 1048576) (w : Wb T c s q) : (0 < c * m ∧ Sp.MayP (c * m) (s * m) (q * m)) ↔ (0 < c ∧ Sp.MayP c s q) := by
  have hT' := le_mul (show 0 ≤ T by have := w.1; omega) m1
  have m0 : 0 < m := by omega
  have m2 : 0 < m * m := Int.mul_pos m0 m0
  rw [mayP hT (w.mul m1), mayP (by omega) w]
  have e1 : 0 < c * m ↔ 0 < c := ⟨fun h => by rcases Int.lt_or_le 0 c with h' | h'; exact h'; have := Int.mul_nonpos_of_nonpos_of_nonneg h' (show 0 ≤ m by omega); omega, fun h => Int.mul_pos h m0⟩
  have e2 : s * m * (s * m) ≤ c * m * (q * m) ↔ s * s ≤ c * q := by
    rw [show s * m * (s * m) = s * s * (m * m) by ac_rfl, show c * m * (q * m) = c * q * (m * m) by ac_rfl]
    exact ⟨fun h => Int.le_of_mul_le_mul_right h m2, fun h => Int.mul_le_mul_of_nonneg_right h (Int.le_of_lt m2)⟩
  rw [e1, e2]
theorem scM {a1 a2 a3 l1 l2 l3 r1 r2 r3 T m : Int} (m1 : 1 ≤ m) (hT : T * m ≤ 1048576) (wa : Wb T a1 a2 a3) (wl : Wb T l1 l2 l3) (wr : Wb T r1 r2 r3) :
    Sc m (V (scoreM l1 l2 l3 r1 r2 r3) (aloneM a1 a2 a3) (sizeM l1 l2 l3) (sizeM r1 r2 r3)) (V (scoreM (l1 * m) (l2 * m) (l3 * m) (r1 * m) (r2 * m) (r3 * m)) (aloneM (a1 * m) (a2 * m) (a3 * m)) (sizeM (l1 * m) (l2 * m) (l3 * m)) (sizeM (r1 * m) (r2 * m) (r3 * m))) := by
  have pa := mayP_mul m1 hT wa
  have pl := mayP_mul m1 hT wl
  have pr := mayP_mul m1 hT wr
  have hA : nm (aloneM (a1 * m) (a2 * m) (a3 * m)) = nm (aloneM a1 a2 a3) * (m * m) ∧ (aloneM (a1 * m) (a2 * m) (a3 * m)).2.2 = (aloneM a1 a2 a3).2.2 * m := by
    unfold aloneM
    by_cases z : 0 < a1 ∧ Sp.MayP a1 a2 a3
    · rw [if_pos z, if_pos (pa.2 z)]; unfold Sp.wideD; rw [wide_nm, wide_nm]; exact ⟨by ac_rfl, rfl⟩
    · rw [if_neg z, if_neg (fun w => z (pa.1 w))]; simp [nm]
  have hS : nm (scoreM (l1 * m) (l2 * m) (l3 * m) (r1 * m) (r2 * m) (r3 * m)) = nm (scoreM l1 l2 l3 r1 r2 r3) * (m * m * m) ∧ (scoreM (l1 * m) (l2 * m) (l3 * m) (r1 * m) (r2 * m) (r3 * m)).2.2 = (scoreM l1 l2 l3 r1 r2 r3).2.2 * (m * m) ∧ ((scoreM l1 l2 l3 r1 r2 r3).2.2 ≠ 0 → (0 < l1 ∧ Sp.MayP l1 l2 l3) ∧ (0 < r1 ∧ Sp.MayP r1 r2 r3)) := by
    unfold scoreM
    by_cases z : (0 < l1 ∧ Sp.MayP l1 l2 l3) ∧ (0 < r1 ∧ Sp.MayP r1 r2 r3)
    · rw [if_pos z, if_pos ⟨pl.2 z.1, pr.2 z.2⟩]; unfold Sp.wideD; rw [wide_nm, wide_nm]
      refine ⟨?_, ?_, fun _ => z⟩
      · rw [Int.add_mul]; congr 1 <;> ac_rfl
      · show l1 * m * (r1 * m) = l1 * r1 * (m * m); ac_rfl
    · rw [if_neg z, if_neg (fun w => z ⟨pl.1 w.1, pr.1 w.2⟩)]
      exact ⟨by simp [nm], by simp, fun w => absurd rfl w⟩
  refine V_sc m1 hS.1 hS.2.1 hA.1 hA.2 (fun z => ?_)
  obtain ⟨z1, z2⟩ := hS.2.2 z
  unfold sizeM
  rw [if_pos z1.2, if_pos z2.2, if_pos (pl.2 z1).2, if_pos (pr.2 z2).2]
  have := (pl.2 z1).1
  have := (pr.2 z2).1
  omega
/-! what the sums of a histogram come to, all of it multiplied -/
def R1 (n : Nat) (m T : Int) (o o' : Option (List Int × Int × Int × Int × Int)) : Prop := ∃ cs : List Int, o = some (cs, 0, 0, 0, 0) ∧ o' = some (cs.map (· * m), 0, 0, 0, 0) ∧ cs.length = n ∧ (∀ x ∈ cs, 0 ≤ x) ∧ S1 cs ≤ T
theorem S1_set (l : List Int) (y : Int) : ∀ i : Nat, i < l.length → S1 (l.set i y) = S1 l - l.getD i 0 + y := by
  induction l with
  | nil => intro i h; simp at h
  | cons x l ih =>
    intro i h
    cases i with
    | zero => simp [S1]; omega
    | succ i => have := ih i (by simpa using h); simp [S1] at this ⊢; omega
theorem S1_drop (l : List Int) (i : Nat) (h : i < l.length) : S1 (l.drop i) = l.getD i 0 + S1 (l.drop (i + 1)) := by
  rw [List.drop_eq_getElem_cons h, S1]; simp [List.getD, h]
theorem S1_drop0 {l : List Int} (h : ∀ x ∈ l, 0 ≤ x) (i : Nat) : 0 ≤ S1 (l.drop i) := Gi.S1_nonneg (fun x hx => h x (List.mem_of_mem_drop hx))
theorem S1_drop_le {l : List Int} (h : ∀ x ∈ l, 0 ≤ x) : ∀ i : Nat, S1 (l.drop i) ≤ S1 l := by
  induction l with
  | nil => intro i; simp
  | cons x l ih =>
    intro i
    cases i with
    | zero => simp
    | succ i => have := ih (fun z hz => h z (List.mem_cons_of_mem _ hz)) i; have := h x List.mem_cons_self; rw [List.drop_succ_cons, S1]; omega
theorem getD0 {l : List Int} (h : ∀ x ∈ l, 0 ≤ x) (i : Nat) : 0 ≤ l.getD i 0 := by
  by_cases hi : i < l.length
  · rw [show l.getD i 0 = l[i] by simp [List.getD, hi]]; exact h _ (List.getElem_mem _)
  · simp [List.getD, List.getElem?_eq_none (by omega : l.length ≤ i)]
theorem getD_le {l : List Int} (h : ∀ x ∈ l, 0 ≤ x) (i : Nat) : l.getD i 0 ≤ S1 l := by
  by_cases hi : i < l.length
  · have := S1_drop l i hi; have := S1_drop_le h i; have := S1_drop0 h (i + 1); omega
  · have := Gi.S1_nonneg h; simp [List.getD, List.getElem?_eq_none (by omega : l.length ≤ i)]; exact this
theorem rd_mul (l : List Int) (m i : Int) : rd (l.map (· * m)) i = rd l i * m := by
  unfold rd
  simp only [List.getD_eq_getElem?_getD, List.getElem?_map]
  cases l[i.toNat]? <;> simp
theorem S1_le {b : Int} : ∀ l : List Int, (∀ x ∈ l, 0 ≤ x ∧ x ≤ b) → S1 l ≤ b * (l.length : Int)
  | [], _ => by simp [S1]
  | x :: l, h => by
    have := S1_le l (fun z hz => h z (List.mem_cons_of_mem _ hz))
    have hx := h x List.mem_cons_self
    rw [S1, List.length_cons, show b * ((l.length + 1 : Nat) : Int) = b * (l.length : Int) + b by rw [Int.natCast_add, Int.mul_add]; simp]
    omega
theorem sc_l1 {B C m T : Int} {l3 : List Int} {l4 l4' : List S54} (b1 : 1 ≤ B ∧ B ≤ 257) (c1 : 2 ≤ C ∧ C ≤ 256) (hl : (l3.length : Int) = B * C) (n0 : ∀ x ∈ l3, 0 ≤ x) (m1 : 1 ≤ m) (hT : T * m ≤ 1048576) (t x11 : Int) (x0 : 0 ≤ x11) (x1 : x11 < B) (n : Nat) (hn : (n : Int) = C) (Kd : Nat)
    (IH : ∀ k x9, Kd < k → x9.length = n → (∀ x ∈ x9, 0 ≤ x) → S1 x9 + S1 (l3.drop ((x11 + 1) * C).toNat) ≤ T → R1 n m T (hist_Sum.l0 k t x9 (wrap64 (x11 + 1)) 0 B C l3 l4 0 0 0) (hist_Sum.l0 k t (x9.map (· * m)) (wrap64 (x11 + 1)) 0 B C (l3.map (· * m)) l4' 0 0 0)) :
    ∀ (j i k : Nat) (x9 : List Int), i + j = n → Kd + j + 1 < k → x9.length = n → (∀ x ∈ x9, 0 ≤ x) → S1 x9 + S1 (l3.drop (x11 * C + (i : Int)).toNat) ≤ T → R1 n m T (hist_Sum.l1 k t x9 x11 (n : Int) (i : Int) 0 B C l3 l4 0 0 0) (hist_Sum.l1 k t (x9.map (· * m)) x11 (n : Int) (i : Int) 0 B C (l3.map (· * m)) l4' 0 0 0)
  | 0, i, k + 1, x9, h, hk, h9, n9, hs => by
    have ea : ∀ (x9 l3 : List Int) (l4 : List S54), hist_Sum.l1 (k + 1) t x9 x11 (n : Int) (i : Int) 0 B C l3 l4 0 0 0 = hist_Sum.l0 k t x9 (wrap64 (x11 + 1)) 0 B C l3 l4 0 0 0 := fun x9 l3 l4 => by
      rw [hist_Sum.l1, if_neg (by omega), if_neg (by decide)]
    rw [ea, ea]
    refine IH k x9 (by omega) h9 n9 ?_
    rw [show (x11 + 1) * C = x11 * C + (i : Int) by rw [Int.add_mul]; omega]
    exact hs
  | j + 1, i, k + 1, x9, h, hk, h9, n9, hs => by
    obtain ⟨a0, a1⟩ := area b1.1 b1.2 (by omega) c1.2
    have p0 : 0 ≤ x11 * C := Int.mul_nonneg x0 (by omega)
    have p1 : x11 * C + C ≤ B * C := by
      have := Int.mul_le_mul_of_nonneg_right (show x11 + 1 ≤ B by omega) (show 0 ≤ C by omega)
      rw [Int.add_mul, Int.one_mul] at this
      exact this
    have hi : (x11 * C + (i : Int)).toNat < l3.length := by omega
    have hd := S1_drop l3 _ hi
    have hd0 := S1_drop0 n0 ((x11 * C + (i : Int)).toNat + 1)
    have s9 := Gi.S1_nonneg n9
    obtain ⟨u, hu⟩ : ∃ u, rd x9 (i : Int) = u := ⟨_, rfl⟩
    obtain ⟨v, hv⟩ : ∃ v, rd l3 (x11 * C + (i : Int)) = v := ⟨_, rfl⟩
    have hu' : x9.getD i 0 = u := by rw [← hu]; unfold rd; rw [Int.toNat_natCast]
    have hv' : l3.getD (x11 * C + (i : Int)).toNat 0 = v := hv
    have u0 := getD0 n9 i
    have u1 := getD_le n9 i
    have v0 := getD0 n0 (x11 * C + (i : Int)).toNat
    rw [hu'] at u0 u1
    rw [hv'] at v0 hd
    have T0 : T ≤ T * m := le_mul (by omega) m1
    have hum : u * m ≤ T * m := Int.mul_le_mul_of_nonneg_right (by omega) (by omega)
    have hvm : v * m ≤ T * m := Int.mul_le_mul_of_nonneg_right (by omega) (by omega)
    have hym : (u + v) * m ≤ T * m := Int.mul_le_mul_of_nonneg_right (by omega) (by omega)
    have um0 := Int.mul_nonneg u0 (show 0 ≤ m by omega)
    have vm0 := Int.mul_nonneg v0 (show 0 ≤ m by omega)
    have hp : prod_Plus.f (rd x9 (i : Int)) (rd l3 (x11 * C + (i : Int))) = some (u + v, 0) := by
      rw [hu, hv]; exact plus_in (by unfold In; omega) (by unfold In; omega) (by unfold In; omega)
    have hp' : prod_Plus.f (rd (x9.map (· * m)) (i : Int)) (rd (l3.map (· * m)) (x11 * C + (i : Int))) = some ((u + v) * m, 0) := by
      rw [rd_mul, rd_mul, hu, hv, Int.add_mul]; rw [Int.add_mul] at hym; exact plus_in (by unfold In; omega) (by unfold In; omega) (by unfold In; omega)
    have ea : ∀ (x9 l3 : List Int) (l4 : List S54) (y : Int), (x9.length : Int) = n → (l3.length : Int) = B * C → prod_Plus.f (rd x9 (i : Int)) (rd l3 (x11 * C + (i : Int))) = some (y, 0) → hist_Sum.l1 (k + 1) t x9 x11 (n : Int) (i : Int) 0 B C l3 l4 0 0 0 = hist_Sum.l1 k t (x9.set i y) x11 (n : Int) ((i + 1 : Nat) : Int) 0 B C l3 l4 0 0 0 := fun x9 l3 l4 y h9 hl hp => by
      rw [hist_Sum.l1, if_pos (by omega), if_pos (by omega), if_pos (by omega), wrap64_id (n := x11 * C) (by omega) (by omega), wrap64_id (n := x11 * C + (i : Int)) (by omega) (by omega), if_pos (by omega), if_pos (by omega), hp, Option.bind_some, if_pos rfl, wrap64_id (n := (i : Int) + 1) (by omega) (by omega), Int.toNat_natCast]; rfl
    rw [ea x9 l3 l4 _ (by omega) hl hp, ea (x9.map (· * m)) (l3.map (· * m)) l4' _ (by rw [List.length_map]; omega) (by rw [List.length_map]; exact hl) hp', show (x9.map (· * m)).set i ((u + v) * m) = (x9.set i (u + v)).map (· * m) by rw [List.map_set]]
    have hset := S1_set x9 (u + v) i (by omega)
    rw [hu'] at hset
    refine sc_l1 b1 c1 hl n0 m1 hT t x11 x0 x1 n hn Kd IH j (i + 1) k _ (by omega) (by omega) (by simpa using h9) (fun x hx => ?_) ?_
    · rcases List.mem_or_eq_of_mem_set hx with h | h
      · exact n9 x h
      · omega
    · rw [show (x11 * C + ((i + 1 : Nat) : Int)).toNat = (x11 * C + (i : Int)).toNat + 1 by omega]
      omega
theorem sc_l0 {B C m T : Int} {l3 : List Int} {l4 l4' : List S54} (b1 : 1 ≤ B ∧ B ≤ 257) (c1 : 2 ≤ C ∧ C ≤ 256) (hl : (l3.length : Int) = B * C) (n0 : ∀ x ∈ l3, 0 ≤ x) (m1 : 1 ≤ m) (hT : T * m ≤ 1048576) (t : Int) (t1 : t ≤ B) (n : Nat) (hn : (n : Int) = C) :
    ∀ (d k : Nat) (x11 : Int) (x9 : List Int), x11 + d = t → 0 ≤ x11 → d * (n + 3) < k → x9.length = n → (∀ x ∈ x9, 0 ≤ x) → S1 x9 + S1 (l3.drop (x11 * C).toNat) ≤ T → R1 n m T (hist_Sum.l0 k t x9 x11 0 B C l3 l4 0 0 0) (hist_Sum.l0 k t (x9.map (· * m)) x11 0 B C (l3.map (· * m)) l4' 0 0 0)
  | 0, k + 1, x11, x9, h, _, _, h9, n9, hs => by
    rw [hist_Sum.l0, hist_Sum.l0]
    simp only [if_neg (show ¬ x11 < t by omega)]
    have := S1_drop0 n0 (x11 * C).toNat
    exact ⟨x9, rfl, rfl, h9, n9, by omega⟩
  | d + 1, k + 1, x11, x9, h, x0, hk, h9, n9, hs => by
    rw [Nat.succ_mul] at hk
    rw [hist_Sum.l0, hist_Sum.l0]
    simp only [if_pos (show x11 < t by omega), h9, List.length_map]
    exact sc_l1 b1 c1 hl n0 m1 hT t x11 x0 (by omega) n hn (d * (n + 3)) (fun k x9 hk h9 n9 hs => by
      rw [wrap64_id (by omega) (by omega)]
      exact sc_l0 b1 c1 hl n0 m1 hT t t1 n hn d k (x11 + 1) x9 (by omega) (by omega) hk h9 n9 hs) n 0 k x9 (by omega) (by omega) h9 n9 (by simpa using hs)
theorem sumC_sc {B C m T : Int} {l3 : List Int} {l4 l4' : List S54} (hR : Rt 0 B C l3 l4) (hR' : Rt 0 B C (l3.map (· * m)) l4') (n0 : ∀ x ∈ l3, 0 ≤ x) (m1 : 1 ≤ m) (hT : T * m ≤ 1048576) (hS : S1 l3 ≤ T) (f t : Int) (f0 : 0 ≤ f) (ft : f ≤ t) (t1 : t ≤ B) :
    ∃ cs : List Int, (∀ k, 70000 ≤ k → hist_Sum.f k 0 B C l3 l4 f t = some (cs, 0, 0, 0, 0)) ∧ (∀ k, 70000 ≤ k → hist_Sum.f k 0 B C (l3.map (· * m)) l4' f t = some (cs.map (· * m), 0, 0, 0, 0)) ∧ (cs.length : Int) = C ∧ (∀ x ∈ cs, 0 ≤ x) ∧ S1 cs ≤ T := by
  have hb := hR.1
  have hc : 2 ≤ C ∧ C ≤ 256 ∧ (l3.length : Int) = B * C := by
    rcases hR.2 with h | h
    · exact ⟨h.2.1, h.2.2.1, h.2.2.2.1⟩
    · omega
  have hd : (t - f).toNat * (C.toNat + 3) ≤ 257 * 259 := Nat.mul_le_mul (by omega) (by omega)
  have main := sc_l0 (l4 := l4) (l4' := l4') hb ⟨hc.1, hc.2.1⟩ hc.2.2 n0 m1 hT t t1 C.toNat (by omega) (t - f).toNat 69999 f (List.replicate C.toNat 0) (by omega) f0 (by omega) (by simp) (fun x hx => by rw [List.eq_of_mem_replicate hx]; omega) (by
    have := S1_drop_le n0 (f * C).toNat
    have e : S1 (List.replicate C.toNat 0) = 0 := by
      generalize C.toNat = q
      induction q with
      | zero => rfl
      | succ q ih => rw [List.replicate_succ, S1, ih]; rfl
    omega)
  have ef : ∀ (l3 : List Int) (l4 : List S54), Rt 0 B C l3 l4 → hist_Sum.f 70000 0 B C l3 l4 f t = hist_Sum.l0 69999 t (List.replicate C.toNat 0) f 0 B C l3 l4 0 0 0 := fun l3 l4 hR => by
    obtain ⟨r, hr, hiff⟩ := right_f 0 B C l3 l4
    unfold hist_Sum.f
    rw [hr, hiff.2 hR, Option.bind_some, if_pos rfl, if_neg (by omega), if_neg (by omega), if_neg (by omega), if_pos rfl, if_pos (by omega), if_pos (by omega), hist_Sum.j0]
  rw [show (List.replicate C.toNat (0 : Int)).map (· * m) = List.replicate C.toNat 0 by simp] at main
  obtain ⟨cs, e1, e2, e3, e4, e5⟩ := main
  exact ⟨cs, fun k hk => at_rounds (g := fun k => hist_Sum.f k 0 B C l3 l4 f t) (hist_Sum.mono _ _ _ _ _ _ _) hk ((ef l3 l4 hR).trans e1), fun k hk => at_rounds (g := fun k => hist_Sum.f k 0 B C (l3.map (· * m)) l4' f t) (hist_Sum.mono _ _ _ _ _ _ _) hk ((ef _ l4' hR').trans e2), by omega, e4, e5⟩
theorem mom_in {a b c d e f : Int} (ha : InI a) (hb : InI b) (hc : InI c) (hd : InI d) (he : InI e) (hf : InI f) (h1 : InI (a + d)) (h2 : InI (b + e)) (h3 : InI (c + f)) : hist_moments_1.f a b c d e f = some (a + d, b + e, c + f, 0) := by
  have p1 : hist_plus.f a d false = some (a + d, 0) := by unfold hist_plus.f; rw [plus_in ha hd h1, Option.bind_some]
  have p2 : hist_plus.f b e true = some (b + e, 0) := by unfold hist_plus.f; rw [plus_in hb he h2, Option.bind_some]
  have p3 : hist_plus.f c f false = some (c + f, 0) := by unfold hist_plus.f; rw [plus_in hc hf h3, Option.bind_some]
  unfold hist_moments_1.f
  rw [p1, Option.bind_some, if_pos rfl, p2, Option.bind_some, if_pos rfl, p3, Option.bind_some, if_pos rfl]
def cnt (l : List S54) : Int := S1 (l.map (fun z => z.f0))
def mm (m : Int) (z : S54) : S54 := ⟨z.f0 * m, z.f1 * m, z.f2 * m⟩
def R2 (m T : Int) (o o' : Option (List Int × Int × Int × Int × Int)) : Prop := ∃ c s q : Int, o = some ([], c, s, q, 0) ∧ o' = some ([], c * m, s * m, q * m, 0) ∧ Wb T c s q
theorem okM_out {z : S54} (h : okM z = true) : (0 ≤ z.f0 ∧ z.f0 ≤ 16384) ∧ (-(1048576 * z.f0) ≤ z.f1 ∧ z.f1 ≤ 1048576 * z.f0) ∧ 0 ≤ z.f2 ∧ z.f2 ≤ 1099511627776 * z.f0 := by
  unfold okM at h
  simp only [Bool.and_eq_true, decide_eq_true_eq] at h
  omega
theorem cnt_nonneg {l : List S54} (h : ∀ z ∈ l, okM z = true) : ∀ x ∈ l.map (fun z => z.f0), 0 ≤ x := fun x hx => by
  obtain ⟨z, hz, rfl⟩ := List.mem_map.1 hx
  exact (okM_out (h z hz)).1.1
theorem sm_l0 {B m T : Int} {l4 : List S54} (b1 : 1 ≤ B ∧ B ≤ 257) (hl : (l4.length : Int) = B) (n4 : ∀ z ∈ l4, okM z = true) (m1 : 1 ≤ m) (hT : T * m ≤ 1048576) (t : Int) (t1 : t ≤ B) :
    ∀ (d k : Nat) (x11 c s q : Int), x11 + d = t → 0 ≤ x11 → 2 * d < k → Wb T c s q → c + cnt (l4.drop x11.toNat) ≤ T → R2 m T (hist_Sum.l0 k t [] x11 1 B 0 [] l4 c s q) (hist_Sum.l0 k t [] x11 1 B 0 [] (l4.map (mm m)) (c * m) (s * m) (q * m))
  | 0, k + 1, x11, c, s, q, h, _, _, w, _ => by
    rw [hist_Sum.l0, hist_Sum.l0]
    simp only [if_neg (show ¬ x11 < t by omega)]
    exact ⟨c, s, q, rfl, rfl, w⟩
  | d + 1, k + 2, x11, c, s, q, h, x0, hk, w, hs => by
    have hj : x11.toNat < l4.length := by omega
    obtain ⟨z, hz⟩ : ∃ z, rd_T54 l4 x11 = z := ⟨_, rfl⟩
    have hz' : l4[x11.toNat] = z := by rw [← hz]; unfold rd_T54; simp [List.getD, hj]
    obtain ⟨⟨z0, z1⟩, ⟨z2, z3⟩, z4, z5⟩ := okM_out (n4 z (by rw [← hz']; exact List.getElem_mem _))
    have hd : cnt (l4.drop x11.toNat) = z.f0 + cnt (l4.drop (x11.toNat + 1)) := by rw [List.drop_eq_getElem_cons hj, hz']; rfl
    have hd0 : 0 ≤ cnt (l4.drop (x11.toNat + 1)) := Gi.S1_nonneg (cnt_nonneg (fun z hz => n4 z (List.mem_of_mem_drop hz)))
    obtain ⟨⟨w1, w2⟩, ⟨w3, w4⟩, w5, w6⟩ := w
    have T0 : T ≤ T * m := le_mul (by omega) m1
    have wz : Wb T z.f0 z.f1 z.f2 := ⟨⟨z0, by omega⟩, ⟨z2, z3⟩, z4, z5⟩
    have w' : Wb T (c + z.f0) (s + z.f1) (q + z.f2) := ⟨⟨by omega, by omega⟩, ⟨by omega, by omega⟩, by omega, by omega⟩
    obtain ⟨⟨a1, a2⟩, ⟨a3, a4⟩, a5, a6⟩ := Wb.mul m1 (⟨⟨w1, w2⟩, ⟨w3, w4⟩, w5, w6⟩ : Wb T c s q)
    obtain ⟨⟨e1, e2⟩, ⟨e3, e4⟩, e5, e6⟩ := Wb.mul m1 wz
    obtain ⟨⟨g1, g2⟩, ⟨g3, g4⟩, g5, g6⟩ := Wb.mul m1 w'
    have hz2 : rd_T54 (l4.map (mm m)) x11 = mm m z := by
      rw [← hz']; unfold rd_T54; simp [List.getD, hj]
    have ea : ∀ (l4 : List S54) (c s q c' s' q' : Int), (l4.length : Int) = B → hist_moments_1.f c s q (rd_T54 l4 x11).f0 (rd_T54 l4 x11).f1 (rd_T54 l4 x11).f2 = some (c', s', q', 0) → hist_Sum.l0 (k + 2) t [] x11 1 B 0 [] l4 c s q = hist_Sum.l0 k t [] (x11 + 1) 1 B 0 [] l4 c' s' q' := fun l4 c s q c' s' q' hl hm => by
      rw [hist_Sum.l0, if_pos (by omega), hist_Sum.l1, if_neg (by simp), if_pos rfl, if_pos x0, if_pos (by omega), hm, Option.bind_some, if_pos rfl, wrap64_id (n := x11 + 1) (by omega) (by omega)]
    have h1 := mom_in (a := c) (b := s) (c := q) (d := z.f0) (e := z.f1) (f := z.f2) (by unfold InI; omega) (by unfold InI; omega) (by unfold InI; omega) (by unfold InI; omega) (by unfold InI; omega) (by unfold InI; omega) (by unfold InI; omega) (by unfold InI; omega) (by unfold InI; omega)
    have h2 := mom_in (a := c * m) (b := s * m) (c := q * m) (d := z.f0 * m) (e := z.f1 * m) (f := z.f2 * m) (by unfold InI; omega) (by unfold InI; omega) (by unfold InI; omega) (by unfold InI; omega) (by unfold InI; omega) (by unfold InI; omega) (by rw [← Int.add_mul]; unfold InI; omega) (by rw [← Int.add_mul]; unfold InI; omega) (by rw [← Int.add_mul]; unfold InI; omega)
    rw [← Int.add_mul, ← Int.add_mul, ← Int.add_mul] at h2
    rw [ea l4 c s q _ _ _ hl (by rw [hz]; exact h1), ea (l4.map (mm m)) _ _ _ _ _ _ (by rw [List.length_map]; exact hl) (by rw [hz2]; exact h2)]
    exact sm_l0 b1 hl n4 m1 hT t t1 d k (x11 + 1) _ _ _ (by omega) (by omega) (by omega) w' (by rw [show (x11 + 1).toNat = x11.toNat + 1 by omega]; omega)
theorem sumM_sc {B m T : Int} {l4 : List S54} (b1 : 1 ≤ B ∧ B ≤ 257) (hl : (l4.length : Int) = B) (n4 : ∀ z ∈ l4, okM z = true) (m1 : 1 ≤ m) (hT : T * m ≤ 1048576) (hS : cnt l4 ≤ T) (f t : Int) (f0 : 0 ≤ f) (ft : f ≤ t) (t1 : t ≤ B) :
    ∃ c s q : Int, (∀ k, 70000 ≤ k → hist_Sum.f k 1 B 0 [] l4 f t = some ([], c, s, q, 0)) ∧ (∀ k, 70000 ≤ k → hist_Sum.f k 1 B 0 [] (l4.map (mm m)) f t = some ([], c * m, s * m, q * m, 0)) ∧ Wb T c s q := by
  have n0 := cnt_nonneg n4
  have T0 : 0 ≤ T := by have := Gi.S1_nonneg n0; unfold cnt at hS; omega
  have main := sm_l0 b1 hl n4 m1 hT t t1 (t - f).toNat 69999 f 0 0 0 (by omega) f0 (by omega) ⟨⟨by omega, T0⟩, ⟨by omega, by omega⟩, by omega, by omega⟩ (by
    have := S1_drop_le n0 f.toNat
    unfold cnt at hS ⊢
    rw [List.map_drop]
    omega)
  rw [Int.zero_mul] at main
  have ef : ∀ (l4 : List S54), (l4.length : Int) = B → hist_Sum.f 70000 1 B 0 [] l4 f t = hist_Sum.l0 69999 t [] f 1 B 0 [] l4 0 0 0 := fun l4 hl => by
    obtain ⟨r, hr, hiff⟩ := right_f 1 B 0 [] l4
    unfold hist_Sum.f
    rw [hr, hiff.2 ⟨b1, .inr ⟨rfl, rfl, rfl, hl⟩⟩, Option.bind_some, if_pos rfl, if_neg (by omega), if_neg (by omega), if_neg (by omega), if_neg (by decide), hist_Sum.j0]
  obtain ⟨c, s, q, e1, e2, w⟩ := main
  exact ⟨c, s, q, fun k hk => at_rounds (g := fun k => hist_Sum.f k 1 B 0 [] l4 f t) (hist_Sum.mono _ _ _ _ _ _ _) hk ((ef l4 hl).trans e1), fun k hk => at_rounds (g := fun k => hist_Sum.f k 1 B 0 [] (l4.map (mm m)) f t) (hist_Sum.mono _ _ _ _ _ _ _) hk ((ef _ (by rw [List.length_map]; exact hl)).trans e2), w⟩
theorem cut_sc {K B C : Int} {l3 : List Int} {l4 : List S54} {m : Int} (m1 : 1 ≤ m) (hR : Rt K B C l3 l4) (n3 : ∀ x ∈ l3, 0 ≤ x) (n4 : ∀ z ∈ l4, okM z = true) (hT : (S1 l3 + cnt l4) * m ≤ 1048576) (bin : Int) (b0 : 0 ≤ bin) (b1 : bin < B - 1) : Sc m (cutD ⟨K, B, C, l3, l4⟩ bin 1) (cutD ⟨K, B, C, l3.map (· * m), l4.map (mm m)⟩ bin 1) := by
  unfold cutD split_Cut.f
  dsimp only
  have hb := hR.1
  rcases hR.2 with ⟨rfl, c0, c1, e3, e4⟩ | ⟨rfl, rfl, e3, e4⟩
  · obtain rfl := List.eq_nil_of_length_eq_zero e4
    rw [if_pos rfl, if_pos rfl]
    have hR' : Rt 0 B C (l3.map (· * m)) ([] : List S54) := ⟨hb, .inl ⟨rfl, c0, c1, by rw [List.length_map]; exact e3, rfl⟩⟩
    have hT' : S1 l3 * m ≤ 1048576 := by
      have e : cnt [] = 0 := rfl
      rw [e, Int.add_zero] at hT; exact hT
    obtain ⟨a, Ha, Ha', la, na, sa⟩ := sumC_sc (l4' := []) hR hR' n3 m1 hT' (Int.le_refl _) 0 B (by omega) (by omega) (by omega)
    obtain ⟨l, Hl, Hl', ll, nl, sl⟩ := sumC_sc (l4' := []) hR hR' n3 m1 hT' (Int.le_refl _) 0 (bin + 1) (by omega) (by omega) (by omega)
    obtain ⟨r, Hr, Hr', lr, nr, sr⟩ := sumC_sc (l4' := []) hR hR' n3 m1 hT' (Int.le_refl _) (bin + 1) B (by omega) (by omega) (by omega)
    rw [valC hR bin b0 b1 Ha Hl Hr 70000 (by omega) 1 (by omega), show (([] : List S54).map (mm m)) = [] from rfl, valC hR' bin b0 b1 Ha' Hl' Hr' 70000 (by omega) 1 (by omega)]
    exact scC m1 hT' (by omega) (by omega) (by omega) na nl nr sa sl sr
  · obtain rfl := List.eq_nil_of_length_eq_zero e3
    rw [if_neg (by decide), if_neg (by decide)]
    have hT' : cnt l4 * m ≤ 1048576 := by
      have e : S1 [] = 0 := rfl
      rw [e, Int.zero_add] at hT; exact hT
    have hR' : Rt 1 B 0 ([] : List Int) (l4.map (mm m)) := ⟨hb, .inr ⟨rfl, rfl, rfl, by rw [List.length_map]; exact e4⟩⟩
    have iw : ∀ {T c s q : Int}, T ≤ 1048576 → Wb T c s q → InI c ∧ InI s ∧ InI q := fun hT w => by
      obtain ⟨⟨w1, w2⟩, ⟨w3, w4⟩, w5, w6⟩ := w
      exact ⟨by unfold InI; omega, by unfold InI; omega, by unfold InI; omega⟩
    obtain ⟨a1, a2, a3, Ha, Ha', wa⟩ := sumM_sc hb e4 n4 m1 hT' (Int.le_refl _) 0 B (by omega) (by omega) (by omega)
    obtain ⟨l1, l2, l3, Hl, Hl', wl⟩ := sumM_sc hb e4 n4 m1 hT' (Int.le_refl _) 0 (bin + 1) (by omega) (by omega) (by omega)
    obtain ⟨r1, r2, r3, Hr, Hr', wr⟩ := sumM_sc hb e4 n4 m1 hT' (Int.le_refl _) (bin + 1) B (by omega) (by omega) (by omega)
    have T0 := le_mul (show 0 ≤ cnt l4 from Gi.S1_nonneg (cnt_nonneg n4)) m1
    obtain ⟨ia1, ia2, ia3⟩ := iw (by omega) wa
    obtain ⟨il1, il2, il3⟩ := iw (by omega) wl
    obtain ⟨ir1, ir2, ir3⟩ := iw (by omega) wr
    obtain ⟨ja1, ja2, ja3⟩ := iw hT' (wa.mul m1)
    obtain ⟨jl1, jl2, jl3⟩ := iw hT' (wl.mul m1)
    obtain ⟨jr1, jr2, jr3⟩ := iw hT' (wr.mul m1)
    rw [valM hR bin b0 b1 Ha ia1 ia2 ia3 Hl il1 il2 il3 Hr ir1 ir2 ir3 70000 (by omega) 1 (by omega), show (([] : List Int).map (· * m)) = [] from rfl, valM hR' bin b0 b1 Ha' ja1 ja2 ja3 Hl' jl1 jl2 jl3 Hr' jr1 jr2 jr3 70000 (by omega) 1 (by omega)]
    exact scM m1 hT' wa wl wr
theorem good_out {k : Nat} (hk : 1 ≤ k) {h : S25} (hg : good k h = true) : Rt h.f0 h.f1 h.f2 h.f3 h.f4 ∧ (∀ x ∈ h.f3, 0 ≤ x ∧ x ≤ 4096) ∧ ∀ z ∈ h.f4, okM z = true := by
  unfold good at hg
  simp only [Bool.and_eq_true, beq_iff_eq, List.all_eq_true] at hg
  obtain ⟨r, hr, hiff⟩ := rright_f k hk h.f0 h.f1 h.f2 h.f3 h.f4
  rw [hr] at hg
  refine ⟨hiff.1 (Option.some.inj hg.1), fun x hx => ?_, hg.2.2⟩
  have := hg.2.1 x hx
  unfold okC at this
  simpa using this
theorem small_mul {a m b : Int} (h0 : 0 ≤ a) (h1 : a ≤ b) (m0 : 0 ≤ m) (m1 : m ≤ 50) : 0 ≤ a * m ∧ a * m ≤ b * 50 := by
  refine ⟨Int.mul_nonneg h0 m0, ?_⟩
  have := Int.mul_le_mul h1 m1 m0 (by omega : (0 : Int) ≤ b)
  exact this
theorem mulH_eq {m : Int} (m1 : 1 ≤ m) (m50 : m ≤ 50) {h : S25} (h3 : ∀ x ∈ h.f3, 0 ≤ x ∧ x ≤ 4096) (h4 : ∀ z ∈ h.f4, okM z = true) : mulH m h = ⟨h.f0, h.f1, h.f2, h.f3.map (· * m), h.f4.map (mm m)⟩ := by
  unfold mulH
  congr 1
  · refine List.map_congr_left (fun x hx => ?_)
    have := small_mul (h3 x hx).1 (h3 x hx).2 (show 0 ≤ m by omega) m50
    unfold mulC; exact wrap64_id (by omega) (by omega)
  · refine List.map_congr_left (fun z hz => ?_)
    obtain ⟨⟨z0, z1⟩, ⟨z2, z3⟩, z4, z5⟩ := okM_out (h4 z hz)
    have a := small_mul z0 z1 (show 0 ≤ m by omega) m50
    have b := small_mul z4 (show z.f2 ≤ 18014398509481984 by omega) (show 0 ≤ m by omega) m50
    have c : -(17179869184 * 50) ≤ z.f1 * m ∧ z.f1 * m ≤ 17179869184 * 50 := by
      rcases Int.le_total 0 z.f1 with h | h
      · have := small_mul h (show z.f1 ≤ 17179869184 by omega) (show 0 ≤ m by omega) m50; omega
      · have := small_mul (show 0 ≤ -z.f1 by omega) (show -z.f1 ≤ 17179869184 by omega) (show 0 ≤ m by omega) m50
        rw [Int.neg_mul] at this; omega
    unfold mulM mm
    rw [wrap64_id (by omega) (by omega), wrap64_id (n := z.f1 * m) (by omega) (by omega), wrap64_id (n := z.f2 * m) (by omega) (by omega)]
theorem fold_in {b : Int} (hb : 0 ≤ b ∧ b ≤ 1000000) : ∀ (l : List Int) (s : Int), (∀ x ∈ l, 0 ≤ x ∧ x ≤ b) → l.length ≤ 100 → 0 ≤ s → s ≤ 4000000000 - b * (l.length : Int) → l.foldl (fun s x => wrap64 (s + x)) s = s + S1 l
  | [], s, _, _, _, _ => by rw [S1]; simp
  | x :: l, s, h, hl, s0, s1 => by
    have hx := h x List.mem_cons_self
    rw [List.length_cons] at s1 hl
    rw [show b * ((l.length + 1 : Nat) : Int) = b * (l.length : Int) + b by rw [Int.natCast_add, Int.mul_add]; simp] at s1
    have hn : 0 ≤ b * (l.length : Int) := Int.mul_nonneg hb.1 (by omega)
    rw [List.foldl_cons, wrap64_id (by omega) (by omega), fold_in hb l (s + x) (fun z hz => h z (List.mem_cons_of_mem _ hz)) (by omega) (by omega) (by omega), S1]
    omega
theorem own_eq {m : Int} (m1 : 1 ≤ m) (m50 : m ≤ 50) {h : S25} (h3 : ∀ x ∈ h.f3, 0 ≤ x ∧ x ≤ 4096) (h4 : ∀ z ∈ h.f4, okM z = true) (l3 : h.f3.length ≤ 100) (l4 : h.f4.length ≤ 20) : own (mulH m h) = (S1 h.f3 + cnt h.f4) * m := by
  rw [mulH_eq m1 m50 h3 h4]
  unfold own
  dsimp only
  have k3 : ∀ x ∈ h.f3.map (· * m), 0 ≤ x ∧ x ≤ 819200 := fun x hx => by
    obtain ⟨z, hz, rfl⟩ := List.mem_map.1 hx
    have := small_mul (h3 z hz).1 (h3 z hz).2 (show 0 ≤ m by omega) m50
    omega
  have k4 : ∀ x ∈ (h.f4.map (fun z => z.f0)).map (· * m), 0 ≤ x ∧ x ≤ 819200 := fun x hx => by
    obtain ⟨y, hy, rfl⟩ := List.mem_map.1 hx
    obtain ⟨z, hz, rfl⟩ := List.mem_map.1 hy
    obtain ⟨⟨z0, z1⟩, _⟩ := okM_out (h4 z hz)
    have := small_mul z0 z1 (show 0 ≤ m by omega) m50
    omega
  have e3 := fold_in (b := 819200) (by omega) (h.f3.map (· * m)) 0 k3 (by simpa using l3) (by omega) (by rw [List.length_map]; omega)
  have s3 := S1_le (h.f3.map (· * m)) k3
  have s30 := Gi.S1_nonneg (fun x hx => (k3 x hx).1)
  rw [List.length_map] at s3
  have e4 := fold_in (b := 819200) (by omega) ((h.f4.map (fun z => z.f0)).map (· * m)) (0 + S1 (h.f3.map (· * m))) k4 (by simp; omega) (by omega) (by rw [List.length_map, List.length_map]; omega)
  rw [e3, show ((h.f4.map (mm m)).foldl (fun s m => wrap64 (s + m.f0)) (0 + S1 (h.f3.map (· * m)))) = ((h.f4.map (fun z => z.f0)).map (· * m)).foldl (fun s x => wrap64 (s + x)) (0 + S1 (h.f3.map (· * m))) by rw [List.map_map, List.foldl_map, List.foldl_map]; rfl, e4, S1_map, S1_map, Int.zero_add, ← Int.add_mul]
  rfl
theorem tot_ge : ∀ (l : List S25) (t : Int), t ≤ l.foldl (fun t h => max t (own h)) t ∧ ∀ h ∈ l, own h ≤ l.foldl (fun t h => max t (own h)) t
  | [], t => ⟨Int.le_refl _, fun h hh => by cases hh⟩
  | g :: l, t => by
    obtain ⟨a, b⟩ := tot_ge l (max t (own g))
    rw [List.foldl_cons]
    refine ⟨by omega, fun h hh => ?_⟩
    rcases List.mem_cons.1 hh with rfl | hh
    · omega
    · exact b h hh
theorem idx_rd (n : Nat) (j : Int) (h0 : 0 ≤ j) (h1 : j < (n : Int)) : rd (idx n) j = j := by
  unfold rd idx
  have hj : j.toNat < n := by omega
  simp [List.getD, hj]
  omega
theorem rd_map25 (l : List S25) (m j : Int) (h0 : 0 ≤ j) (h1 : j < (l.length : Int)) : rd_T25 (l.map (mulH m)) j = mulH m (rd_T25 l j) := by
  unfold rd_T25
  have hj : j.toNat < l.length := by omega
  simp [List.getD, hj]
theorem rd_mem {l : List S25} {j : Int} (h0 : 0 ≤ j) (h1 : j < (l.length : Int)) : rd_T25 l j ∈ l := by
  unfold rd_T25
  rw [show l.getD j.toNat z25 = l[j.toNat]'(by omega) by simp [List.getD, show j.toNat < l.length by omega]]; exact List.getElem_mem _
theorem great_l2 (l : List S25) : ∀ (m i k : Nat), i + m = l.length → m < k → l.length ≤ 8 → hornbeamlaw16_great.l0 k l (l.length : Int) (i : Int) = some false → ∀ j : Int, (i : Int) ≤ j → j < (l.length : Int) → (rd_T25 l j).f3.length ≤ 100 ∧ (rd_T25 l j).f4.length ≤ 20
  | 0, i, k + 1, h, _, _, _ => fun j j0 j1 => by omega
  | m + 1, i, k + 1, h, hk, h8, e => fun j j0 j1 => by
    rw [hornbeamlaw16_great.l0, if_pos (by omega), if_pos (by omega), if_pos (by omega), wrap64_id (n := (i : Int) + 1) (by omega) (by omega)] at e
    split at e
    · cases e
    · split at e
      · cases e
      · by_cases hj : j = (i : Int)
        · subst hj; omega
        · exact great_l2 l m (i + 1) k (by omega) (by omega) h8 e j (by omega) j1
theorem wrap_in (x : Int) : InI (wrap64 x) := by unfold InI wrap64; omega
/-- Both bests are of one place. -/
theorem best_one {l L : List S25} (hl : L.length = l.length) (hw : ∀ h ∈ l, Wf h) (hW : ∀ h ∈ L, Wf h) (hR : ∀ j : Int, 0 ≤ j → j < (l.length : Int) → ∀ c : Int, (rd_T25 L j).f1 = (rd_T25 l j).f1 ∧ (0 ≤ c → c < (rd_T25 l j).f1 - 1 → ∃ m, 1 ≤ m ∧ Sc m (cutD (rd_T25 l j) c 1) (cutD (rd_T25 L j) c 1))) (mu : Int) (hmu : 1 ≤ mu) (hSc : ∀ j : Int, 0 ≤ j → j < (l.length : Int) → ∀ c : Int, 0 ≤ c → c < (rd_T25 l j).f1 - 1 → Sc mu (cutD (rd_T25 l j) c 1) (cutD (rd_T25 L j) c 1))
    {T T' : Bool} {F bn n1 n2 n3 F' bn' n1' n2' n3' : Int} (I : InvB l 1 (l.length : Int) 0 T F bn n1 n2 n3) (J : InvB L 1 (L.length : Int) 0 T' F' bn' n1' n2' n3') : T = T' ∧ F = F' ∧ bn = bn' := by
  rw [hl] at J
  have okiff : ∀ j c, 0 ≤ j → j < (l.length : Int) → (ok L 1 j c ↔ ok l 1 j c) := fun j c j0 j1 => by
    constructor
    · intro h
      obtain ⟨_, c0, c1⟩ := inF_fr hW (by omega) h
      rw [(hR j j0 j1 c).1] at c1
      have s := (hSc j j0 j1 c c0 c1).1
      unfold ok at h ⊢
      rw [← s]; exact h
    · intro h
      obtain ⟨_, c0, c1⟩ := inF_fr hw (by omega) h
      have s := (hSc j j0 j1 c c0 c1).1
      unfold ok at h ⊢
      rw [s]; exact h
  have m2 : 0 < mu * mu := Int.mul_pos (by omega) (by omega)
  have m3 : 0 < mu * mu * mu := Int.mul_pos m2 (by omega)
  have fcs : ∀ j c j' c', 0 ≤ j → j < (l.length : Int) → 0 ≤ j' → j' < (l.length : Int) → ok l 1 j c → ok l 1 j' c' → fc (fr L 1 j c) (fr L 1 j' c') = fc (fr l 1 j c) (fr l 1 j' c') := fun j c j' c' j0 j1 j0' j1' o o' => by
    obtain ⟨_, c0, c1⟩ := inF_fr hw (by omega) o
    obtain ⟨_, c0', c1'⟩ := inF_fr hw (by omega) o'
    obtain ⟨_, s1, s2⟩ := hSc j j0 j1 c c0 c1
    obtain ⟨_, t1, t2⟩ := hSc j' j0' j1' c' c0' c1'
    show Fr.FC (nm (fr L 1 j c)) (fr L 1 j c).2.2 (nm (fr L 1 j' c')) (fr L 1 j' c').2.2 = Fr.FC (nm (fr l 1 j c)) (fr l 1 j c).2.2 (nm (fr l 1 j' c')) (fr l 1 j' c').2.2
    rw [show nm (fr L 1 j c) = nm (fr l 1 j c) * (mu * mu * mu) from s1, show (fr L 1 j c).2.2 = (fr l 1 j c).2.2 * (mu * mu) from s2, show nm (fr L 1 j' c') = nm (fr l 1 j' c') * (mu * mu * mu) from t1, show (fr L 1 j' c').2.2 = (fr l 1 j' c').2.2 * (mu * mu) from t2]
    exact FC_sc _ _ _ _ _ _ _ _ m2 m2 rfl (Int.mul_pos m3 m2)
  have inl : ∀ j c, Bef j c (l.length : Int) 0 → 0 ≤ c → j < (l.length : Int) := fun j c h c0 => by unfold Bef at h; omega
  rcases I with ⟨rfl, rfl, rfl, _, _, _, a7⟩ | ⟨rfl, a2, a3, a4, a5, a6⟩
  · rcases J with ⟨rfl, rfl, rfl, _, _, _, b7⟩ | ⟨rfl, b2, b3, b4, b5, b6⟩
    · exact ⟨rfl, rfl, rfl⟩
    · have c0 := (inF_fr hW (by omega) b4).2.1
      exact absurd ((okiff _ _ b2 (inl _ _ b3 c0)).1 b4) (a7 _ _ b2 b3)
  · have c0 := (inF_fr hw (by omega) a4).2.1
    have j1 := inl _ _ a3 c0
    rcases J with ⟨rfl, rfl, rfl, _, _, _, b7⟩ | ⟨rfl, b2, b3, b4, b5, b6⟩
    · exact absurd ((okiff _ _ a2 j1).2 a4) (b7 _ _ a2 a3)
    · have c0' := (inF_fr hW (by omega) b4).2.1
      have j1' := inl _ _ b3 c0'
      have o' := (okiff _ _ b2 j1').1 b4
      have u := a6 F' bn' b2 b3 o'
      have v := b6 F bn a2 a3 ((okiff _ _ a2 j1).2 a4)
      rw [← a5] at u
      rw [← b5, fcs F bn F' bn' a2 j1 b2 j1' a4 o'] at v
      have an := fc_anti (fr l 1 F bn) (fr l 1 F' bn')
      refine ⟨rfl, ?_⟩
      by_cases q : Bef F' bn' F bn
      · have := u.2 q; omega
      · by_cases q2 : Bef F bn F' bn'
        · have := v.2 q2; omega
        · unfold Bef at q q2; omega
end SplitTimes0
open SplitTimes0
open hornbeamlaw16_SplitTimes (okC okM mulC mulM mulH own tot idx small good same)
theorem SplitTimes : hornbeamlaw16_SplitTimes.Pure := by
  intro l a hwf wa
  have ha : 0 ≤ a ∧ a < 256 := by
    simp only [Lit.wf, IntKind.min, IntKind.max, IntKind.signed, IntKind.bits, Bool.and_eq_true, decide_eq_true_eq, Bool.false_eq_true, if_false] at wa
    omega
  have hw : ∀ h ∈ l, Wf h := fun h hh => by
    obtain ⟨_, w1, _, w3, w4⟩ := hwf.2 h hh
    exact ⟨wf_in w1, fun x hx => wf_in (w3.2 x hx), fun m hm => ⟨wf_in (w4.2 m hm).1, wf_in (w4.2 m hm).2.1, wf_in (w4.2 m hm).2.2⟩⟩
  refine ⟨100001, ?_⟩
  obtain ⟨g, hg, h8⟩ := great_f l 100001 (by omega)
  unfold hornbeamlaw16_SplitTimes.f
  rw [if_pos ⟨fixed_f 100001 (by omega), ha⟩, hg, Option.bind_some]
  by_cases hz : g = true ∨ a = 0
  · rw [if_pos hz]
  rw [if_neg hz]
  have g0 : g = false := by cases g with
    | false => rfl
    | true => exact absurd (.inl rfl) hz
  have h8 := h8 g0
  have hgl : hornbeamlaw16_great.l0 100001 l (l.length : Int) ((0 : Nat) : Int) = some false := by
    rw [g0] at hg
    unfold hornbeamlaw16_great.f at hg
    rw [if_neg (by omega)] at hg; exact hg
  have hlen := great_l2 l l.length 0 100001 (by omega) (by omega) h8 hgl
  have hsm : ∀ h ∈ l, h.f3.length ≤ 100 ∧ h.f4.length ≤ 20 := fun h hh => by
    obtain ⟨j, hj, rfl⟩ := List.getElem_of_mem hh
    have := hlen (j : Int) (by omega) (by omega)
    unfold rd_T25 at this
    simpa [List.getD, hj] using this
  rw [if_pos ⟨h8, List.all_eq_true.2 (fun h hh => by
    obtain ⟨r, hr, _⟩ := rright_f 100001 (by omega) h.f0 h.f1 h.f2 h.f3 h.f4
    unfold small
    rw [hr]
    have := hsm h hh
    simp [this.1, this.2])⟩]
  by_cases hgd : l.all (good 100001) = true
  rotate_left
  · rw [if_neg hgd]
  rw [if_pos hgd]
  have hgood := List.all_eq_true.1 hgd
  obtain ⟨m, hm⟩ : ∃ m, a % 50 + 1 = m := ⟨_, rfl⟩
  rw [hm]
  have m1 : 1 ≤ m := by omega
  have m50 : m ≤ 50 := by omega
  have hR : ∀ j : Int, 0 ≤ j → j < (l.length : Int) → Rt (rd_T25 l j).f0 (rd_T25 l j).f1 (rd_T25 l j).f2 (rd_T25 l j).f3 (rd_T25 l j).f4 := fun j j0 j1 => (good_out (by omega) (hgood _ (rd_mem j0 j1))).1
  have hR' : ∀ j : Int, 0 ≤ j → j < ((l.map (mulH m)).length : Int) → Rt (rd_T25 (l.map (mulH m)) j).f0 (rd_T25 (l.map (mulH m)) j).f1 (rd_T25 (l.map (mulH m)) j).f2 (rd_T25 (l.map (mulH m)) j).f3 (rd_T25 (l.map (mulH m)) j).f4 := fun j j0 j1 => by
    rw [List.length_map] at j1
    rw [rd_map25 l m j j0 j1]
    have := hR j j0 j1
    unfold Rt at this ⊢
    simpa [mulH] using this
  have hW : ∀ h ∈ l.map (mulH m), Wf h := fun h hh => by
    obtain ⟨g, hg, rfl⟩ := List.mem_map.1 hh
    refine ⟨(hw g hg).1, fun x hx => ?_, fun z hz => ?_⟩
    · obtain ⟨y, _, rfl⟩ := List.mem_map.1 hx; exact wrap_in _
    · obtain ⟨y, _, rfl⟩ := List.mem_map.1 hz; exact ⟨wrap_in _, wrap_in _, wrap_in _⟩
  obtain ⟨T, F, bn, n1, n2, n3, ex, I⟩ := best_f hw (leaf := 1) (by omega) (idx l.length) (fun j j0 j1 => idx_rd _ j j0 j1) (by simp [idx]) h8 hR 100001 (by omega)
  obtain ⟨T', F', bn', n1', n2', n3', ey, J⟩ := best_f hW (leaf := 1) (by omega) (idx l.length) (fun j j0 j1 => idx_rd _ j j0 (by rw [List.length_map] at j1; exact j1)) (by simp [idx]) (by rw [List.length_map]; exact h8) hR' 100001 (by omega)
  rw [ex, Option.bind_some, ey, Option.bind_some]
  by_cases ht : 1048576 < tot (l.map (mulH m))
  · rw [if_pos ht]
  rw [if_neg ht]
  have hSc : ∀ j : Int, 0 ≤ j → j < (l.length : Int) → ∀ c : Int, 0 ≤ c → c < (rd_T25 l j).f1 - 1 → Sc m (cutD (rd_T25 l j) c 1) (cutD (rd_T25 (l.map (mulH m)) j) c 1) := fun j j0 j1 c c0 c1 => by
    rw [rd_map25 l m j j0 j1]
    have hmem := rd_mem j0 j1
    generalize rd_T25 l j = h at hmem c1
    obtain ⟨r, h3, h4⟩ := good_out (by omega) (hgood h hmem)
    have ho := (tot_ge (l.map (mulH m)) 0).2 (mulH m h) (List.mem_map.2 ⟨h, hmem, rfl⟩)
    rw [own_eq m1 m50 h3 h4 (hsm h hmem).1 (hsm h hmem).2] at ho
    rw [mulH_eq m1 m50 h3 h4]
    exact cut_sc m1 r (fun x hx => (h3 x hx).1) h4 (by unfold tot at ht; omega) c c0 c1
  obtain ⟨rfl, rfl, rfl⟩ := best_one (List.length_map _) hw hW (fun j j0 j1 c => ⟨by rw [rd_map25 l m j j0 j1]; rfl, fun c0 c1 => ⟨m, m1, hSc j j0 j1 c c0 c1⟩⟩) m m1 hSc I J
  simp [same]
end Go.Proofs.Ytancajnbjmcamaa.Pure
