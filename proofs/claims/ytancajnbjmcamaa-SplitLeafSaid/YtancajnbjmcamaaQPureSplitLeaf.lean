/- The law SplitLeaf answers true. No condition. -/
import Derived.Test.YtancajnbjmcamaaQSplitLeafx15
import Derived.Test.YtancajnbjmcamaaVP64
import Derived.Test.YtancajnbjmcamaaSums
namespace Go.Proofs.Ytancajnbjmcamaa.Pure
open Go.RowKit Go.Proofs.Ytancajnbjmcamaa.QSplitLeaf Go.Proofs.YtancajnbjmcamaaW.PrintWords Go.Proofs.YtancajnbjmcamaaW.PrintLast
open Go.Proofs.Ytancajnbjmcamaa.P64 Go.Proofs.Ytancajnbjmcamaa.Sums
namespace SplitLeaf0
namespace Gi
theorem mul_f (a b : Int) : prod_Mul.f a b = some (mul64 a b) := rfl
theorem mul_eq {a b : Int} (a0 : 0 ≤ a) (a1 : a < 18446744073709551616) (b0 : 0 ≤ b) (b1 : b < 18446744073709551616) :
    prod_Mul.f a b = some (a * b / 18446744073709551616, a * b % 18446744073709551616) := by rw [mul_f, mul64_eq a0 a1 b0 b1]
theorem add64_f {a b c : Int} (a0 : 0 ≤ a) (b0 : 0 ≤ b) (c0 : 0 ≤ c) (c1 : c ≤ 1) : bits_Add64.f a b c = some ((a + b + c) % 18446744073709551616, (a + b + c) / 18446744073709551616) := by
  unfold bits_Add64.f
  rw [if_pos ⟨a0, b0, c0, c1⟩]
theorem add_f {a b c d : Int} (a0 : 0 ≤ a) (a1 : a < 18446744073709551616) (b0 : 0 ≤ b) (b1 : b < 18446744073709551616) (c0 : 0 ≤ c) (c1 : c < 18446744073709551616) (d0 : 0 ≤ d) (d1 : d < 18446744073709551616) :
    prod_Add.f a b c d = some (wideSum (a * 18446744073709551616 + b + (c * 18446744073709551616 + d))) := by
  unfold prod_Add.f
  rw [add64_f b0 d0 (by omega) (by omega), Option.bind_some, add64_f a0 c0 (by omega) (by omega), Option.bind_some]
  unfold wideSum
  have e1 : (b + d + 0) / 18446744073709551616 = (b + d) / 18446744073709551616 := by rw [Int.add_zero]
  have e2 : (a * 18446744073709551616 + b + (c * 18446744073709551616 + d)) / 18446744073709551616 = a + c + (b + d) / 18446744073709551616 := by omega
  have e3 : (a * 18446744073709551616 + b + (c * 18446744073709551616 + d)) % 18446744073709551616 = (b + d) % 18446744073709551616 := by omega
  rw [e1, e2, e3, Int.add_zero]
  by_cases h : (a + c + (b + d) / 18446744073709551616) / 18446744073709551616 = 0
  · rw [if_pos h, if_pos (by omega), Int.emod_eq_of_lt (a := a + c + (b + d) / 18446744073709551616) (by omega) (by omega)]
  · rw [if_neg h, if_neg (by omega)]
def MayG (l : List Int) : Prop := 2 ≤ l.length ∧ l.length ≤ 256 ∧ (∀ x ∈ l, 0 ≤ x) ∧ S1 l ≤ 1048576
instance (l : List Int) : Decidable (MayG l) := by unfold MayG; exact inferInstance
theorem S1_nonneg {l : List Int} (h : ∀ x ∈ l, 0 ≤ x) : 0 ≤ S1 l := by
  induction l with
  | nil => exact Int.le_refl _
  | cons x l ih =>
    have h1 := h x List.mem_cons_self
    have h2 := ih fun y hy => h y (List.mem_cons_of_mem _ hy)
    rw [S1]; omega
theorem rd_nat (l : List Int) (i : Nat) : rd l (i : Int) = l.getD i 0 := rfl
theorem may_l (l : List Int) (hl : l.length ≤ 256) (d : Nat) : ∀ (k i : Nat) (s : Int), i + d = l.length → d < k → 0 ≤ s → s ≤ 1048576 * (i : Int) →
    gini_May.l0 k s l (l.length : Int) (i : Int) = some (decide ((∀ x ∈ l.drop i, 0 ≤ x) ∧ s + S1 (l.drop i) ≤ 1048576)) ∨ (gini_May.l0 k s l (l.length : Int) (i : Int) = some false ∧ ¬ ((∀ x ∈ l.drop i, 0 ≤ x) ∧ s + S1 (l.drop i) ≤ 1048576)) := by
  induction d with
  | zero =>
    intro k i s hi hk s0 s1
    obtain ⟨k, rfl⟩ : ∃ m, k = m + 1 := ⟨k - 1, by omega⟩
    left
    rw [gini_May.l0, if_neg (by omega), List.drop_eq_nil_of_le (by omega)]
    congr 1
    rw [decide_eq_decide, S1]
    exact ⟨fun h => ⟨(fun x hx => by cases hx), by omega⟩, fun h => by omega⟩
  | succ d ih =>
    intro k i s hi hk s0 s1
    obtain ⟨k, rfl⟩ : ∃ m, k = m + 1 := ⟨k - 1, by omega⟩
    have hlt : i < l.length := by omega
    have e : l.getD i 0 = l[i] := by simp [List.getD, hlt]
    rw [gini_May.l0, if_pos (by omega), if_pos (by omega), if_pos (by omega), rd_nat, e, List.drop_eq_getElem_cons hlt, show wrap64 ((i : Int) + 1) = ((i + 1 : Nat) : Int) by unfold wrap64; omega]
    by_cases h1 : l[i] < 0
    · rw [if_pos h1]
      exact .inr ⟨rfl, fun h => by have := h.1 l[i] List.mem_cons_self; omega⟩
    · rw [if_neg h1]
      by_cases h2 : l[i] > 1048576
      · rw [if_pos h2]
        refine .inr ⟨rfl, fun h => ?_⟩
        have := S1_nonneg (l := l.drop (i + 1)) fun y hy => h.1 y (List.mem_cons_of_mem _ hy)
        have h3 := h.2
        rw [S1] at h3
        omega
      · rw [if_neg h2, wrap64_id (n := s + l[i]) (by omega) (by omega)]
        have := ih k (i + 1) (s + l[i]) (by omega) (by omega) (by omega) (by omega)
        have hiff : ((∀ x ∈ l[i] :: l.drop (i + 1), 0 ≤ x) ∧ s + S1 (l[i] :: l.drop (i + 1)) ≤ 1048576) ↔ ((∀ x ∈ l.drop (i + 1), 0 ≤ x) ∧ s + l[i] + S1 (l.drop (i + 1)) ≤ 1048576) := by
          rw [S1]
          constructor
          · intro h; exact ⟨fun y hy => h.1 y (List.mem_cons_of_mem _ hy), by omega⟩
          · intro h
            refine ⟨fun y hy => ?_, by omega⟩
            rcases List.mem_cons.1 hy with rfl | hy
            · omega
            · exact h.1 y hy
        rw [decide_eq_decide.2 hiff, hiff]
        exact this
theorem may_f (l : List Int) (k : Nat) (hk : 300 ≤ k) : gini_May.f k l = some (decide (MayG l)) := by
  obtain ⟨k, rfl⟩ : ∃ m, k = m + 1 := ⟨k - 1, by omega⟩
  have jt : gini_May.j0 (k + 1) l true = some false := by rw [gini_May.j0, if_pos rfl]
  unfold gini_May.f
  by_cases h1 : (l.length : Int) < 2
  · rw [if_pos h1, jt, decide_eq_false (fun h => by have := h.1; omega)]
  · rw [if_neg h1]
    by_cases h2 : (l.length : Int) > 256
    · rw [decide_eq_true h2, jt, decide_eq_false (fun h => by have := h.2.1; omega)]
    · rw [decide_eq_false h2, gini_May.j0, if_neg (by decide)]
      have hm : MayG l ↔ ((∀ x ∈ l.drop 0, 0 ≤ x) ∧ 0 + S1 (l.drop 0) ≤ 1048576) := by
        unfold MayG
        rw [List.drop_zero, Int.zero_add]
        exact ⟨fun h => h.2.2, fun h => ⟨by omega, by omega, h⟩⟩
      rcases may_l l (by omega) l.length k 0 0 (by omega) (by omega) (by omega) (by omega) with h | h
      · refine (show gini_May.l0 k 0 l (l.length : Int) 0 = _ from h).trans ?_
        rw [decide_eq_decide.2 hm]
      · refine (show gini_May.l0 k 0 l (l.length : Int) 0 = _ from h.1).trans ?_
        rw [decide_eq_false (fun h2 => h.2 (hm.1 h2))]
theorem total_s (l : List Int) (h : ∀ x ∈ l, 0 ≤ x) : ∀ s : Int, 0 ≤ s → s + S1 l ≤ 4294967296 → l.foldl (fun acc x => IntKind.u64.wrap (acc + gini_total.g (IntKind.u64.wrap x))) s = s + S1 l := by
  induction l with
  | nil => intro s _ _; simp [S1]
  | cons x l ih =>
    intro s s0 s1
    have h1 := h x List.mem_cons_self
    have h2 := S1_nonneg (l := l) fun y hy => h y (List.mem_cons_of_mem _ hy)
    rw [S1] at s1
    rw [List.foldl_cons, uwrap_id (n := x) h1 (by omega)]
    unfold gini_total.g
    rw [uwrap_id (n := s + x) (by omega) (by omega)]
    have := ih (fun y hy => h y (List.mem_cons_of_mem _ hy)) (s + x) (by omega) (by omega)
    unfold gini_total.g at this
    rw [this, S1]; omega
theorem total_f {l : List Int} (h : MayG l) : gini_total.f l = some (S1 l) := by
  unfold gini_total.f gini_total.s
  rw [if_pos (by have := h.2.1; omega), total_s l h.2.2.1 0 (by omega) (by have := h.2.2.2; omega), Int.zero_add]
theorem S2_le {l : List Int} (h : ∀ x ∈ l, 0 ≤ x) : 0 ≤ S2 l ∧ S2 l ≤ S1 l * S1 l := by
  induction l with
  | nil => simp [S1, S2]
  | cons x l ih =>
    have h1 := h x List.mem_cons_self
    have hl := fun y hy => h y (List.mem_cons_of_mem _ hy)
    have h2 := ih hl
    have h3 := S1_nonneg hl
    have h4 := Int.mul_nonneg h1 h1
    have h5 := Int.mul_nonneg h1 h3
    have e : (x + S1 l) * (x + S1 l) = x * x + 2 * (x * S1 l) + S1 l * S1 l := by rw [Int.add_mul, Int.mul_add, Int.mul_add, Int.mul_comm (S1 l) x]; omega
    rw [S1, S2, e]; omega
theorem squares_s (l : List Int) (h : ∀ x ∈ l, 0 ≤ x) (hs : S1 l ≤ 1048576) : ∀ s : Int, 0 ≤ s → s + S2 l ≤ 1099511627776 → l.foldl (fun acc x => IntKind.u64.wrap (acc + gini_squares.g (IntKind.u64.wrap x))) s = s + S2 l := by
  induction l with
  | nil => intro s _ _; simp [S2]
  | cons x l ih =>
    intro s s0 s1
    have h1 := h x List.mem_cons_self
    have hl := fun y hy => h y (List.mem_cons_of_mem _ hy)
    have h2 := S1_nonneg (l := l) hl
    have h3 := S2_le (l := l) hl
    have h4 := Int.mul_nonneg h1 h1
    rw [S1] at hs
    rw [S2] at s1
    rw [List.foldl_cons, uwrap_id (n := x) h1 (by omega)]
    unfold gini_squares.g
    rw [uwrap_id (n := x * x) h4 (by omega), uwrap_id (n := s + x * x) (by omega) (by omega)]
    have := ih hl (by omega) (s + x * x) (by omega) (by omega)
    unfold gini_squares.g at this
    rw [this, S2]; omega
theorem S2_small {l : List Int} (h : MayG l) : 0 ≤ S2 l ∧ S2 l ≤ 1099511627776 := by
  have h1 := S2_le h.2.2.1
  have h2 := S1_nonneg h.2.2.1
  have h3 := h.2.2.2
  have h4 := Int.mul_le_mul (a := S1 l) (b := S1 l) (c := 1048576) (d := 1048576) h3 h3 h2 (by omega)
  omega
theorem squares_f {l : List Int} (h : MayG l) : gini_squares.f l = some (S2 l) := by
  have := S2_small h
  unfold gini_squares.f gini_squares.s
  rw [if_pos (by have := h.2.1; omega), squares_s l h.2.2.1 h.2.2.2 0 (by omega) (by omega), Int.zero_add]
/-- How well counts are apart. -/
def aloneD (l : List Int) : Int × Int × Int := if MayG l ∧ S1 l ≠ 0 then (0, S2 l, S1 l) else (0, 0, 0)
theorem alone_f (l : List Int) (k : Nat) (hk : 301 ≤ k) : gini_Alone.f k l = some (aloneD l) := by
  obtain ⟨k, rfl⟩ : ∃ m, k = m + 1 := ⟨k - 1, by omega⟩
  have jt : gini_Alone.j0 (k + 1) l true = some (0, 0, 0) := by rw [gini_Alone.j0, if_pos rfl]
  unfold gini_Alone.f aloneD
  rw [may_f l _ (by omega), Option.bind_some]
  by_cases h : MayG l
  · rw [decide_eq_true h, if_pos rfl, total_f h, Option.bind_some]
    by_cases h0 : S1 l = 0
    · rw [show (S1 l == 0) = true from beq_iff_eq.2 h0, jt, if_neg (show ¬ (MayG l ∧ S1 l ≠ 0) from fun h2 => h2.2 h0)]
    · rw [show (S1 l == 0) = false from beq_eq_false_iff_ne.2 h0, gini_Alone.j0, if_neg (by decide), squares_f h, Option.bind_some, total_f h, Option.bind_some, if_pos (show MayG l ∧ S1 l ≠ 0 from ⟨h, h0⟩)]
  · rw [decide_eq_false h, if_neg (by decide), jt, if_neg (show ¬ (MayG l ∧ S1 l ≠ 0) from fun h2 => h h2.1)]
/-- May these two be sides, both with targets? -/
def Sides (a b : List Int) : Prop := MayG a ∧ MayG b ∧ a.length = b.length ∧ S1 a ≠ 0 ∧ S1 b ≠ 0
instance (a b : List Int) : Decidable (Sides a b) := by unfold Sides; exact inferInstance
/-- The upper number of two sides. -/
def upper (a b : List Int) : Int := S2 a * S1 b + S2 b * S1 a
def scoreD (a b : List Int) : Int × Int × Int := if Sides a b then (upper a b / 18446744073709551616, upper a b % 18446744073709551616, S1 a * S1 b) else (0, 0, 0)
theorem upper_bound {a b : List Int} (h : Sides a b) : (0 ≤ S2 a * S1 b ∧ S2 a * S1 b ≤ 1099511627776 * 1048576) ∧ (0 ≤ S2 b * S1 a ∧ S2 b * S1 a ≤ 1099511627776 * 1048576) ∧ (0 ≤ S1 a * S1 b ∧ S1 a * S1 b ≤ 1048576 * 1048576) := by
  obtain ⟨ha, hb, _, _, _⟩ := h
  have a1 := S2_small ha; have b1 := S2_small hb
  have a2 := S1_nonneg ha.2.2.1; have b2 := S1_nonneg hb.2.2.1
  have a3 := ha.2.2.2; have b3 := hb.2.2.2
  exact ⟨⟨Int.mul_nonneg a1.1 b2, Int.mul_le_mul a1.2 b3 b2 (by omega)⟩, ⟨Int.mul_nonneg b1.1 a2, Int.mul_le_mul b1.2 a3 a2 (by omega)⟩, ⟨Int.mul_nonneg a2 b2, Int.mul_le_mul a3 b3 b2 (by omega)⟩⟩
theorem score_f (a b : List Int) (k : Nat) (hk : 301 ≤ k) : gini_Score.f k a b = some (scoreD a b) := by
  obtain ⟨k, rfl⟩ : ∃ m, k = m + 1 := ⟨k - 1, by omega⟩
  have jt : gini_Score.j0 (k + 1) a b true = some (0, 0, 0) := by rw [gini_Score.j0, if_pos rfl]
  have no : ∀ h : ¬ Sides a b, some (0, 0, 0) = some (scoreD a b) := fun h => by unfold scoreD; rw [if_neg h]
  unfold gini_Score.f
  rw [may_f a _ (by omega), Option.bind_some]
  by_cases ha : MayG a
  · rw [decide_eq_true ha, if_pos rfl, may_f b _ (by omega), Option.bind_some]
    by_cases hb : MayG b
    · rw [decide_eq_true hb, if_pos rfl]
      by_cases hl : (a.length : Int) = (b.length : Int)
      · rw [if_pos hl, total_f ha, Option.bind_some]
        by_cases h1 : S1 a = 0
        · rw [if_pos h1, jt]; exact no (fun h => h.2.2.2.1 h1)
        · rw [if_neg h1, total_f hb, Option.bind_some]
          by_cases h2 : S1 b = 0
          · rw [show (S1 b == 0) = true from beq_iff_eq.2 h2, jt]; exact no (fun h => h.2.2.2.2 h2)
          · have hs : Sides a b := ⟨ha, hb, by omega, h1, h2⟩
            have a1 := S2_small ha; have b1 := S2_small hb
            have a2 := S1_nonneg ha.2.2.1; have b2 := S1_nonneg hb.2.2.1
            have a3 := ha.2.2.2; have b3 := hb.2.2.2
            obtain ⟨u1, u2, u3⟩ := upper_bound hs
            rw [show (S1 b == 0) = false from beq_eq_false_iff_ne.2 h2, gini_Score.j0, if_neg (by decide), total_f ha, Option.bind_some, total_f hb, Option.bind_some, squares_f ha, Option.bind_some, mul_eq (by omega) (by omega) (by omega) (by omega), Option.bind_some,
              squares_f hb, Option.bind_some, mul_eq (by omega) (by omega) (by omega) (by omega), Option.bind_some, add_f (by omega) (by omega) (by omega) (by omega) (by omega) (by omega) (by omega) (by omega), Option.bind_some, uwrap_id (n := S1 a * S1 b) (by omega) (by omega)]
            have e : S2 a * S1 b / 18446744073709551616 * 18446744073709551616 + S2 a * S1 b % 18446744073709551616 + (S2 b * S1 a / 18446744073709551616 * 18446744073709551616 + S2 b * S1 a % 18446744073709551616) = upper a b := by unfold upper; omega
            rw [e]
            unfold wideSum scoreD
            rw [if_pos (show upper a b < 340282366920938463463374607431768211456 by unfold upper; omega), if_pos hs]
      · rw [if_neg hl, jt]; exact no (fun h => hl (by rw [h.2.2.1]))
    · rw [decide_eq_false hb, if_neg (by decide), jt]; exact no (fun h => hb h.2.1)
  · rw [decide_eq_false ha, if_neg (by decide), jt]; exact no (fun h => ha h.1)
end Gi
namespace Sp
theorem compare_f (a b : Int) : cmp_Compare_uint64.f a b = some (cmpI a b) := by
  unfold cmp_Compare_uint64.f cmp_isNaN_uint64.f cmpI
  rw [Option.bind_some, Option.bind_some, if_neg (by simp), if_neg (by simp)]
  split
  · rfl
  · split <;> rfl
theorem or_f (k : Nat) (hk : 3 ≤ k) (a b : Int) : cmp_Or_int.f k [a, b] = some (if a = 0 then b else a) := by
  obtain ⟨k, rfl⟩ : ∃ m, k = m + 3 := ⟨k - 3, by omega⟩
  unfold cmp_Or_int.f
  rw [cmp_Or_int.l0, if_pos (by simp), if_pos (by omega), if_pos (by simp)]
  rw [show rd [a, b] 0 = a from rfl, show wrap64 (0 + 1) = 1 by unfold wrap64; omega]
  by_cases ha : a = 0
  · rw [if_pos ha, cmp_Or_int.l0, if_pos (by simp), if_pos (by omega), if_pos (by simp), show rd [a, b] 1 = b from rfl, show wrap64 (1 + 1) = 2 by unfold wrap64; omega, if_pos ha]
    by_cases hb : b = 0
    · rw [if_pos hb, cmp_Or_int.l0, if_neg (by simp), hb]
    · rw [if_neg hb]
  · rw [if_neg ha, if_neg ha]
theorem cmp_f (k : Nat) (hk : 3 ≤ k) (X Y : Int) : prod_Cmp.f k (X / 18446744073709551616) (X % 18446744073709551616) (Y / 18446744073709551616) (Y % 18446744073709551616) = some (cmpI X Y) := by
  unfold prod_Cmp.f
  rw [compare_f, Option.bind_some, compare_f, Option.bind_some, or_f k hk, Option.bind_some]
  congr 1
  unfold cmpI
  by_cases h1 : X / 18446744073709551616 < Y / 18446744073709551616
  · rw [if_pos h1, if_neg (by decide), if_pos (by omega)]
  · rw [if_neg h1]
    by_cases h2 : Y / 18446744073709551616 < X / 18446744073709551616
    · rw [if_pos h2, if_neg (by decide), if_neg (by omega), if_pos (by omega)]
    · rw [if_neg h2, if_pos rfl]
      by_cases h3 : X % 18446744073709551616 < Y % 18446744073709551616
      · rw [if_pos h3, if_pos (by omega)]
      · rw [if_neg h3, if_neg (show ¬ X < Y by omega)]
        by_cases h4 : Y % 18446744073709551616 < X % 18446744073709551616
        · rw [if_pos h4, if_pos (by omega)]
        · rw [if_neg h4, if_neg (by omega)]
theorem size_f (a : Int) : prod_size.f a = some (sizeI a) := by unfold prod_size.f sizeI; split <;> rfl
theorem mul_f (a b : Int) : prod_Mul.f a b = some (mul64 a b) := rfl
/-- A wide number's words. -/
def wideD (X : Int) : Int × Int := (X / 18446744073709551616, X % 18446744073709551616)
theorem square_f {a : Int} (a0 : -9223372036854775808 ≤ a) (a1 : a ≤ 9223372036854775807) : prod_Square.f a = some (wideD (a * a)) := by
  unfold prod_Square.f wideD
  rw [size_f, Option.bind_some, Option.bind_some, mul_f, Option.bind_some, sizeI_eq a0 a1, mul64_eq (by omega) (by omega) (by omega) (by omega), Int.natAbs_mul_self']
/-- May these be a moment's numbers? -/
def MayP (c s q : Int) : Prop := (c = 0 ∧ s = 0 ∧ q = 0) ∨ (1 ≤ c ∧ c ≤ 1048576 ∧ 0 ≤ q ∧ q ≤ 1099511627776 * c ∧ -(1048576 * c) ≤ s ∧ s ≤ 1048576 * c ∧ s * s ≤ c * q)
instance (c s q : Int) : Decidable (MayP c s q) := by unfold MayP; exact inferInstance
def InI (n : Int) : Prop := -9223372036854775808 ≤ n ∧ n ≤ 9223372036854775807
theorem bound_f {c s q : Int} (c0 : 0 ≤ c) (c1 : c ≤ 9223372036854775807) (q0 : 0 ≤ q) (q1 : q ≤ 9223372036854775807) : spread_bound.f c s q = some (wideD (c * q)) := by
  unfold spread_bound.f wideD
  rw [uwrap_id c0 (by omega), uwrap_id q0 (by omega), mul_f, Option.bind_some, mul64_eq (by omega) (by omega) (by omega) (by omega)]
theorem may_f (k : Nat) (hk : 10 ≤ k) {c s q : Int} (hc : InI c) (hs : InI s) (hq : InI q) : spread_May.f k c s q = some (decide (MayP c s q)) := by
  unfold InI at hc hs hq
  obtain ⟨k, rfl⟩ : ∃ m, k = m + 5 := ⟨k - 5, by omega⟩
  unfold spread_May.f spread_none.f
  rw [Option.bind_some]
  by_cases h0 : c = 0 ∧ s = 0 ∧ q = 0
  · obtain ⟨rfl, rfl, rfl⟩ := h0
    rw [if_pos (by decide), decide_eq_true (show MayP 0 0 0 from .inl ⟨rfl, rfl, rfl⟩)]
  · rw [if_neg (by simpa using h0)]
    have jt : ∀ m, spread_May.j0 (m + 1) true c s q = some false := fun m => by rw [spread_May.j0, if_pos rfl]
    by_cases h1 : c < 1
    · rw [if_pos h1, jt, decide_eq_false]
      rintro (h | h)
      · exact h0 h
      · omega
    · rw [if_neg h1]
      by_cases h2 : c > 1048576
      · rw [if_pos h2, jt, decide_eq_false]
        rintro (h | h)
        · exact h0 h
        · omega
      · rw [if_neg h2]
        by_cases h3 : q < 0
        · rw [if_pos h3, jt, decide_eq_false]
          rintro (h | h)
          · exact h0 h
          · omega
        · rw [if_neg h3, wrap64_id (n := 1099511627776 * c) (by omega) (by omega)]
          by_cases h4 : q > 1099511627776 * c
          · rw [decide_eq_true h4, jt, decide_eq_false]
            rintro (h | h)
            · exact h0 h
            · omega
          · rw [decide_eq_false h4, spread_May.j0, if_neg (by decide), wrap64_id (n := 1048576 * c) (by omega) (by omega), wrap64_id (n := -1048576 * c) (by omega) (by omega)]
            have jt2 : ∀ m, spread_May.j1 (m + 1) true c s q = some false := fun m => by rw [spread_May.j1, if_pos rfl]
            by_cases h5 : s > 1048576 * c
            · rw [if_pos h5, jt2, decide_eq_false]
              rintro (h | h)
              · exact h0 h
              · omega
            · rw [if_neg h5]
              by_cases h6 : s < -1048576 * c
              · rw [decide_eq_true h6, jt2, decide_eq_false]
                rintro (h | h)
                · exact h0 h
                · omega
              · rw [decide_eq_false h6, spread_May.j1, if_neg (by decide), square_f hs.1 hs.2, Option.bind_some, bound_f (by omega) (by omega) (by omega) (by omega), Option.bind_some]
                unfold wideD
                rw [cmp_f _ (by omega), Option.bind_some]
                congr 1
                rw [decide_eq_decide]
                unfold cmpI MayP
                constructor
                · intro h
                  refine .inr ⟨by omega, by omega, by omega, by omega, by omega, by omega, ?_⟩
                  by_cases h7 : s * s < c * q
                  · omega
                  · rw [if_neg h7] at h
                    by_cases h8 : c * q < s * s
                    · rw [if_pos h8] at h; omega
                    · omega
                · rintro (h | ⟨_, _, _, _, _, _, h⟩)
                  · exact absurd h h0
                  · split
                    · omega
                    · rw [if_neg (by omega)]; omega
theorem there_f (k : Nat) (hk : 10 ≤ k) {c s q : Int} (hc : InI c) (hs : InI s) (hq : InI q) : spread_there.f k c s q = some (decide (0 < c ∧ MayP c s q)) := by
  unfold spread_there.f
  by_cases h : c > 0
  · rw [if_pos h, may_f k hk hc hs hq, Option.bind_some]
    congr 1
    rw [decide_eq_decide]
    exact ⟨fun h1 => ⟨h, h1⟩, fun h1 => h1.2⟩
  · rw [if_neg h, decide_eq_false (fun h1 => h h1.1)]
theorem alone_f (k : Nat) (hk : 10 ≤ k) {c s q : Int} (hc : InI c) (hs : InI s) (hq : InI q) : spread_Alone.f k c s q = some (if 0 < c ∧ MayP c s q then ((wideD (s * s)).1, (wideD (s * s)).2, c) else (0, 0, 0)) := by
  unfold spread_Alone.f
  rw [there_f k hk hc hs hq, Option.bind_some]
  by_cases h : 0 < c ∧ MayP c s q
  · unfold InI at hc hs
    rw [decide_eq_true h, if_pos rfl, if_pos h, square_f hs.1 hs.2, Option.bind_some, uwrap_id (by omega) (by omega)]
  · rw [decide_eq_false h, if_neg (by decide), if_neg h]
theorem add64_f {a b c : Int} (a0 : 0 ≤ a) (b0 : 0 ≤ b) (c0 : 0 ≤ c) (c1 : c ≤ 1) : bits_Add64.f a b c = some ((a + b + c) % 18446744073709551616, (a + b + c) / 18446744073709551616) := by
  unfold bits_Add64.f
  rw [if_pos ⟨a0, b0, c0, c1⟩]
theorem times_f {h l n : Int} (h0 : 0 ≤ h) (h1 : h < 18446744073709551616) (l0 : 0 ≤ l) (l1 : l < 18446744073709551616) (n0 : 0 ≤ n) (n1 : n < 18446744073709551616) :
    prod_Times.f h l n = some (longD ((h * 18446744073709551616 + l) * n)) := by
  unfold prod_Times.f
  rw [show bits_Mul64.f l n = some (mul64 l n) from rfl, show bits_Mul64.f h n = some (mul64 h n) from rfl, Option.bind_some, Option.bind_some, mul64_eq l0 l1 n0 n1, mul64_eq h0 h1 n0 n1]
  have p1 := mul_bound64 l0 l1 n0 n1
  have p2 := mul_bound64 h0 h1 n0 n1
  have e : (h * 18446744073709551616 + l) * n = (h * n) * 18446744073709551616 + l * n := by rw [Int.add_mul, Int.mul_right_comm]
  rw [e]
  unfold longD
  generalize h * n = q at *
  generalize l * n = p at *
  rw [add64_f (by omega) (by omega) (by omega) (by omega), Option.bind_some, uwrap_id (by omega) (by omega)]
  simp only [Option.some.injEq, Prod.mk.injEq]
  omega
theorem add_f {a b c d : Int} (a0 : 0 ≤ a) (a1 : a < 18446744073709551616) (b0 : 0 ≤ b) (b1 : b < 18446744073709551616) (c0 : 0 ≤ c) (c1 : c < 18446744073709551616) (d0 : 0 ≤ d) (d1 : d < 18446744073709551616) :
    prod_Add.f a b c d = some (wideSum (a * 18446744073709551616 + b + (c * 18446744073709551616 + d))) := by
  unfold prod_Add.f
  rw [add64_f b0 d0 (by omega) (by omega), Option.bind_some, add64_f a0 c0 (by omega) (by omega), Option.bind_some]
  unfold wideSum
  have e1 : (b + d + 0) / 18446744073709551616 = (b + d) / 18446744073709551616 := by rw [Int.add_zero]
  have e2 : (a * 18446744073709551616 + b + (c * 18446744073709551616 + d)) / 18446744073709551616 = a + c + (b + d) / 18446744073709551616 := by omega
  have e3 : (a * 18446744073709551616 + b + (c * 18446744073709551616 + d)) % 18446744073709551616 = (b + d) % 18446744073709551616 := by omega
  rw [e1, e2, e3, Int.add_zero]
  by_cases h : (a + c + (b + d) / 18446744073709551616) / 18446744073709551616 = 0
  · rw [if_pos h, if_pos (by omega), Int.emod_eq_of_lt (a := a + c + (b + d) / 18446744073709551616) (by omega) (by omega)]
  · rw [if_neg h, if_neg (by omega)]
theorem there_bound {c s q : Int} (h : 0 < c ∧ MayP c s q) : c ≤ 1048576 ∧ 0 ≤ s * s ∧ s * s ≤ 1208925819614629174706176 := by
  obtain ⟨h0, h | h⟩ := h
  · omega
  · have e : s * s = (s.natAbs : Int) * s.natAbs := (Int.natAbs_mul_self' s).symm
    have := Int.mul_le_mul (a := (s.natAbs : Int)) (b := (s.natAbs : Int)) (c := 1099511627776) (d := 1099511627776) (by omega) (by omega) (by omega) (by omega)
    have := sq_nonneg' s
    omega
theorem sside_f {c s q c2 s2 q2 : Int} (hs : InI s) (h : 0 < c ∧ MayP c s q) (h2 : 0 < c2 ∧ MayP c2 s2 q2) : spread_side.f c s q c2 s2 q2 = some (wideD (s * s * c2)) := by
  have b := there_bound h; have b2 := there_bound h2
  have hb : 0 ≤ s * s * c2 ∧ s * s * c2 ≤ 1208925819614629174706176 * 1048576 := ⟨Int.mul_nonneg b.2.1 (by omega), Int.mul_le_mul b.2.2 b2.1 (by omega) (by omega)⟩
  unfold spread_side.f
  rw [square_f hs.1 hs.2, Option.bind_some, uwrap_id (by omega) (by omega)]
  unfold wideD
  rw [times_f (h := s * s / 18446744073709551616) (l := s * s % 18446744073709551616) (n := c2) (by omega) (by omega) (by omega) (by omega) (by omega) (by omega), Option.bind_some]
  have e : s * s / 18446744073709551616 * 18446744073709551616 + s * s % 18446744073709551616 = s * s := by omega
  rw [e]
  unfold longD
  rw [Int.emod_eq_of_lt (a := s * s * c2 / 18446744073709551616) (by omega) (by omega)]
theorem score_f (k : Nat) (hk : 12 ≤ k) {c s q c2 s2 q2 : Int} (hc : InI c) (hs : InI s) (hq : InI q) (hc2 : InI c2) (hs2 : InI s2) (hq2 : InI q2) :
    spread_Score.f k c s q c2 s2 q2 = some (if (0 < c ∧ MayP c s q) ∧ (0 < c2 ∧ MayP c2 s2 q2) then ((wideD (s * s * c2 + s2 * s2 * c)).1, (wideD (s * s * c2 + s2 * s2 * c)).2, c * c2) else (0, 0, 0)) := by
  obtain ⟨k, rfl⟩ : ∃ m, k = m + 1 := ⟨k - 1, by omega⟩
  have jt : spread_Score.j0 (k + 1) true c s q c2 s2 q2 = some (0, 0, 0) := by rw [spread_Score.j0, if_pos rfl]
  unfold spread_Score.f
  rw [there_f _ (by omega) hc hs hq, Option.bind_some]
  by_cases h : 0 < c ∧ MayP c s q
  · rw [decide_eq_true h, if_pos rfl, there_f _ (by omega) hc2 hs2 hq2, Option.bind_some]
    by_cases h2 : 0 < c2 ∧ MayP c2 s2 q2
    · have b := there_bound h; have b2 := there_bound h2
      have hb : 0 ≤ s * s * c2 ∧ s * s * c2 ≤ 1208925819614629174706176 * 1048576 := ⟨Int.mul_nonneg b.2.1 (by omega), Int.mul_le_mul b.2.2 b2.1 (by omega) (by omega)⟩
      have hb2 : 0 ≤ s2 * s2 * c ∧ s2 * s2 * c ≤ 1208925819614629174706176 * 1048576 := ⟨Int.mul_nonneg b2.2.1 (by omega), Int.mul_le_mul b2.2.2 b.1 (by omega) (by omega)⟩
      have hcc : 0 ≤ c * c2 ∧ c * c2 ≤ 1048576 * 1048576 := ⟨Int.mul_nonneg (by omega) (by omega), Int.mul_le_mul b.1 b2.1 (by omega) (by omega)⟩
      rw [decide_eq_true h2, Bool.not_true, spread_Score.j0, if_neg (by decide), if_pos (show (0 < c ∧ MayP c s q) ∧ (0 < c2 ∧ MayP c2 s2 q2) from ⟨h, h2⟩), sside_f hs h h2, Option.bind_some, sside_f hs2 h2 h, Option.bind_some]
      unfold wideD
      rw [add_f (a := s * s * c2 / 18446744073709551616) (b := s * s * c2 % 18446744073709551616) (c := s2 * s2 * c / 18446744073709551616) (d := s2 * s2 * c % 18446744073709551616) (by omega) (by omega) (by omega) (by omega) (by omega) (by omega) (by omega) (by omega), Option.bind_some]
      have e : s * s * c2 / 18446744073709551616 * 18446744073709551616 + s * s * c2 % 18446744073709551616 + (s2 * s2 * c / 18446744073709551616 * 18446744073709551616 + s2 * s2 * c % 18446744073709551616) = s * s * c2 + s2 * s2 * c := by omega
      rw [e]
      unfold wideSum
      rw [if_pos (by omega), uwrap_id (n := c) (by omega) (by omega), uwrap_id (n := c2) (by omega) (by omega), uwrap_id (n := c * c2) (by omega) (by omega)]
    · rw [decide_eq_false h2, Bool.not_false, jt, if_neg (show ¬ ((0 < c ∧ MayP c s q) ∧ (0 < c2 ∧ MayP c2 s2 q2)) from fun h3 => h2 h3.2)]
  · rw [decide_eq_false h, if_neg (by decide), jt, if_neg (show ¬ ((0 < c ∧ MayP c s q) ∧ (0 < c2 ∧ MayP c2 s2 q2)) from fun h3 => h h3.1)]
end Sp
namespace Fr
theorem add64_f {a b c : Int} (a0 : 0 ≤ a) (b0 : 0 ≤ b) (c0 : 0 ≤ c) (c1 : c ≤ 1) : bits_Add64.f a b c = some ((a + b + c) % 18446744073709551616, (a + b + c) / 18446744073709551616) := by
  unfold bits_Add64.f
  rw [if_pos ⟨a0, b0, c0, c1⟩]
theorem times_f {h l n : Int} (h0 : 0 ≤ h) (h1 : h < 18446744073709551616) (l0 : 0 ≤ l) (l1 : l < 18446744073709551616) (n0 : 0 ≤ n) (n1 : n < 18446744073709551616) :
    prod_Times.f h l n = some (longD ((h * 18446744073709551616 + l) * n)) := by
  unfold prod_Times.f
  rw [show bits_Mul64.f l n = some (mul64 l n) from rfl, show bits_Mul64.f h n = some (mul64 h n) from rfl, Option.bind_some, Option.bind_some, mul64_eq l0 l1 n0 n1, mul64_eq h0 h1 n0 n1]
  have p1 := mul_bound64 l0 l1 n0 n1
  have p2 := mul_bound64 h0 h1 n0 n1
  have e : (h * 18446744073709551616 + l) * n = (h * n) * 18446744073709551616 + l * n := by rw [Int.add_mul, Int.mul_right_comm]
  rw [e]
  unfold longD
  generalize h * n = q at *
  generalize l * n = p at *
  rw [add64_f (by omega) (by omega) (by omega) (by omega), Option.bind_some, uwrap_id (by omega) (by omega)]
  simp only [Option.some.injEq, Prod.mk.injEq]
  omega
theorem compare_f (a b : Int) : cmp_Compare_uint64.f a b = some (cmpI a b) := by
  unfold cmp_Compare_uint64.f cmp_isNaN_uint64.f cmpI
  rw [Option.bind_some, Option.bind_some, if_neg (by simp), if_neg (by simp)]
  split
  · rfl
  · split <;> rfl
theorem cmplong_f {X Y : Int} (_x0 : 0 ≤ X) (_y0 : 0 ≤ Y) : prod_CmpLong.f (longD X).1 (longD X).2.1 (longD X).2.2 (longD Y).1 (longD Y).2.1 (longD Y).2.2 = some (cmpI X Y) := by
  unfold prod_CmpLong.f longD
  simp only [compare_f]
  unfold cmpI
  have hx := Int.mul_ediv_add_emod X 18446744073709551616
  have hy := Int.mul_ediv_add_emod Y 18446744073709551616
  have hx2 := Int.mul_ediv_add_emod (X / 18446744073709551616) 18446744073709551616
  have hy2 := Int.mul_ediv_add_emod (Y / 18446744073709551616) 18446744073709551616
  have b1 := Int.emod_nonneg X (b := 18446744073709551616) (by decide)
  have b2 := Int.emod_lt_of_pos X (b := 18446744073709551616) (by decide)
  have b3 := Int.emod_nonneg Y (b := 18446744073709551616) (by decide)
  have b4 := Int.emod_lt_of_pos Y (b := 18446744073709551616) (by decide)
  have b5 := Int.emod_nonneg (X / 18446744073709551616) (b := 18446744073709551616) (by decide)
  have b6 := Int.emod_lt_of_pos (X / 18446744073709551616) (b := 18446744073709551616) (by decide)
  have b7 := Int.emod_nonneg (Y / 18446744073709551616) (b := 18446744073709551616) (by decide)
  have b8 := Int.emod_lt_of_pos (Y / 18446744073709551616) (b := 18446744073709551616) (by decide)
  generalize X % 18446744073709551616 = u0 at *
  generalize Y % 18446744073709551616 = v0 at *
  generalize X / 18446744073709551616 % 18446744073709551616 = u1 at *
  generalize Y / 18446744073709551616 % 18446744073709551616 = v1 at *
  generalize X / 18446744073709551616 / 18446744073709551616 = u2 at *
  generalize Y / 18446744073709551616 / 18446744073709551616 = v2 at *
  generalize X / 18446744073709551616 = p at *
  generalize Y / 18446744073709551616 = q at *
  by_cases h2 : u2 = v2
  · rw [if_pos h2]
    by_cases h1 : u1 = v1
    · rw [if_pos h1]
      by_cases h0 : u0 = v0
      · rw [if_pos h0, if_neg (by omega), if_neg (by omega)]
      · rw [if_neg h0]
        rcases Int.lt_or_gt_of_ne h0 with h | h
        · rw [if_pos h, if_pos (by omega)]
        · rw [if_neg (by omega), if_pos h, if_neg (by omega), if_pos (by omega)]
    · rw [if_neg h1]
      rcases Int.lt_or_gt_of_ne h1 with h | h
      · rw [if_pos h, if_pos (by omega)]
      · rw [if_neg (by omega), if_pos h, if_neg (by omega), if_pos (by omega)]
  · rw [if_neg h2]
    rcases Int.lt_or_gt_of_ne h2 with h | h
    · rw [if_pos h, if_pos (by omega)]
    · rw [if_neg (by omega), if_pos h, if_neg (by omega), if_pos (by omega)]
/-- How two fractions stand to one another: their upper numbers n, m, their lower ones d, e. -/
def FC (n d m e : Int) : Int := if d = 0 then (if e = 0 then 0 else -1) else if e = 0 then 1 else cmpI (n * e) (m * d)
theorem compareI_f (a b : Int) : cmp_Compare_int.f a b = some (cmpI a b) := by
  unfold cmp_Compare_int.f cmp_isNaN_int.f cmpI
  rw [Option.bind_some, Option.bind_some, if_neg (by simp), if_neg (by simp)]
  split
  · rfl
  · split <;> rfl
theorem right_f (h l d : Int) : frac_Right.f h l d = some (d != 0) := rfl
theorem rank_f (b : Bool) : frac_rank.f b = some (if b = true then 1 else 0) := by unfold frac_rank.f; split <;> rfl
theorem fcmp_j (k : Nat) {h l d h2 l2 d2 : Int} (h0 : 0 ≤ h) (h1 : h < 18446744073709551616) (l0 : 0 ≤ l) (l1 : l < 18446744073709551616) (e0 : 0 ≤ d) (e1 : d < 18446744073709551616)
    (g0 : 0 ≤ h2) (g1 : h2 < 18446744073709551616) (m0 : 0 ≤ l2) (m1 : l2 < 18446744073709551616) (f0 : 0 ≤ d2) (f1 : d2 < 18446744073709551616) (hd : d ≠ 0) (he : d2 ≠ 0) :
    frac_Cmp.j0 (k + 1) false h l d h2 l2 d2 = some (FC (h * 18446744073709551616 + l) d (h2 * 18446744073709551616 + l2) d2) := by
  rw [frac_Cmp.j0, if_neg (by decide), times_f h0 h1 l0 l1 f0 f1, Option.bind_some, times_f g0 g1 m0 m1 e0 e1, Option.bind_some, cmplong_f (Int.mul_nonneg (by omega) f0) (Int.mul_nonneg (by omega) e0), Option.bind_some]
  unfold FC
  rw [if_neg hd, if_neg he]
theorem fcmp_f (k : Nat) (hk : 1 ≤ k) {h l d h2 l2 d2 : Int} (h0 : 0 ≤ h) (h1 : h < 18446744073709551616) (l0 : 0 ≤ l) (l1 : l < 18446744073709551616) (e0 : 0 ≤ d) (e1 : d < 18446744073709551616)
    (g0 : 0 ≤ h2) (g1 : h2 < 18446744073709551616) (m0 : 0 ≤ l2) (m1 : l2 < 18446744073709551616) (f0 : 0 ≤ d2) (f1 : d2 < 18446744073709551616) :
    frac_Cmp.f k h l d h2 l2 d2 = some (FC (h * 18446744073709551616 + l) d (h2 * 18446744073709551616 + l2) d2) := by
  obtain ⟨k, rfl⟩ : ∃ q, k = q + 1 := ⟨k - 1, by omega⟩
  unfold frac_Cmp.f
  rw [right_f, Option.bind_some]
  by_cases hd : d = 0
  · rw [hd, if_neg (by decide), frac_Cmp.j0, if_pos rfl, right_f, Option.bind_some, rank_f, Option.bind_some, right_f, Option.bind_some, rank_f, Option.bind_some, compareI_f, Option.bind_some]
    unfold FC
    rw [if_pos rfl]
    by_cases he : d2 = 0
    · rw [if_pos he, he]; rfl
    · rw [if_neg he, show (d2 != 0) = true from bne_iff_ne.2 he]; rfl
  · rw [show (d != 0) = true from bne_iff_ne.2 hd, if_pos rfl, right_f, Option.bind_some]
    by_cases he : d2 = 0
    · rw [he, show (!((0 : Int) != 0)) = true from rfl, frac_Cmp.j0, if_pos rfl, right_f, Option.bind_some, rank_f, Option.bind_some, right_f, Option.bind_some, rank_f, Option.bind_some, compareI_f, Option.bind_some]
      unfold FC
      rw [if_neg hd, if_pos rfl, show (d != 0) = true from bne_iff_ne.2 hd]; rfl
    · rw [show (!(d2 != 0)) = false by rw [show (d2 != 0) = true from bne_iff_ne.2 he]; rfl]
      exact fcmp_j k h0 h1 l0 l1 e0 e1 g0 g1 m0 m1 f0 f1 hd he
end Fr
open Sp (InI)
theorem in0 : InI 0 := by unfold InI; omega
theorem wf_in {a : Int} (h : (Lit.int .i64 a).wf = true) : InI a := wf_i64 h
def In (n : Int) : Prop := -9223372036854775808 ≤ n ∧ n ≤ 9223372036854775807
theorem plus_in {a b : Int} (ha : In a) (hb : In b) (h : In (a + b)) : prod_Plus.f a b = some (a + b, 0) := by
  unfold In at *
  unfold prod_Plus.f
  rw [wrap64_id h.1 h.2]
  split
  · rename_i h1
    rw [if_neg]
    rw [beq_iff_eq, decide_eq_decide] at h1
    rw [bne_iff_ne, ne_eq, decide_eq_decide]
    omega
  · rfl
theorem plus_out {a b : Int} (ha : In a) (hb : In b) (h : ¬ In (a + b)) : prod_Plus.f a b = some (0, 6) := by
  unfold In at *
  unfold prod_Plus.f
  rw [if_pos, if_pos]
  · rw [bne_iff_ne, ne_eq, decide_eq_decide]; unfold wrap64; omega
  · rw [beq_iff_eq, decide_eq_decide]; omega
theorem plus_tot {a b : Int} (ha : InI a) (hb : InI b) : ∃ x e, prod_Plus.f a b = some (x, e) ∧ InI x := by
  by_cases h : In (a + b)
  · exact ⟨_, _, plus_in ha hb h, h⟩
  · exact ⟨_, _, plus_out ha hb h, in0⟩
theorem mom_tot {a b c d e f : Int} (ha : InI a) (hb : InI b) (hc : InI c) (hd : InI d) (he : InI e) (hf : InI f) : ∃ r1 r2 r3 r4, hist_moments_1.f a b c d e f = some (r1, r2, r3, r4) ∧ InI r1 ∧ InI r2 ∧ InI r3 := by
  obtain ⟨x, e1, hx, ix⟩ := plus_tot ha hd
  obtain ⟨y, e2, hy, iy⟩ := plus_tot hb he
  obtain ⟨z, e3, hz, iz⟩ := plus_tot hc hf
  have p1 : hist_plus.f a d false = some (x, e1) := by unfold hist_plus.f; rw [hx, Option.bind_some]
  have p2 : hist_plus.f b e true = some (y, e2) := by unfold hist_plus.f; rw [hy, Option.bind_some]
  have p3 : hist_plus.f c f false = some (z, e3) := by unfold hist_plus.f; rw [hz, Option.bind_some]
  unfold hist_moments_1.f
  rw [p1, Option.bind_some]
  dsimp only
  split
  · rw [p2, Option.bind_some]
    dsimp only
    split
    · rw [p3, Option.bind_some]
      dsimp only
      split
      · exact ⟨_, _, _, _, rfl, ix, iy, iz⟩
      · exact ⟨_, _, _, _, rfl, in0, in0, in0⟩
    · exact ⟨_, _, _, _, rfl, in0, in0, in0⟩
  · exact ⟨_, _, _, _, rfl, in0, in0, in0⟩
/-- A right histogram. -/
def Rt (K B C : Int) (l3 : List Int) (l4 : List S54) : Prop := (1 ≤ B ∧ B ≤ 257) ∧ ((K = 0 ∧ 2 ≤ C ∧ C ≤ 256 ∧ (l3.length : Int) = B * C ∧ l4.length = 0) ∨ (K = 1 ∧ C = 0 ∧ l3.length = 0 ∧ (l4.length : Int) = B))
theorem area {B C : Int} (b0 : 1 ≤ B) (b1 : B ≤ 257) (c0 : 0 ≤ C) (c1 : C ≤ 256) : 0 ≤ B * C ∧ B * C ≤ 65792 := by
  refine ⟨Int.mul_nonneg (by omega) c0, ?_⟩
  have := Int.mul_le_mul b1 c1 c0 (by omega : (0 : Int) ≤ 257)
  omega
theorem right_f (K B C : Int) (l3 : List Int) (l4 : List S54) : ∃ r, hist_Right.f K B C l3 l4 = some r ∧ (r = true ↔ Rt K B C l3 l4) := by
  unfold hist_Right.f hist_may.f Rt
  by_cases h1 : B < 1
  · rw [if_pos h1, Option.bind_some, if_neg (by decide)]; exact ⟨_, rfl, ⟨fun h => (by cases h), fun h => absurd h (by omega)⟩⟩
  rw [if_neg h1]
  by_cases h2 : B > 257
  · rw [if_pos h2, Option.bind_some, if_neg (by decide)]; exact ⟨_, rfl, ⟨fun h => (by cases h), fun h => absurd h (by omega)⟩⟩
  rw [if_neg h2]
  by_cases h3 : K = 0
  · subst h3
    rw [if_pos rfl]
    by_cases h4 : C ≥ 2
    · rw [if_pos h4]
      by_cases h5 : C ≤ 256
      · obtain ⟨a0, a1⟩ := area (B := B) (C := C) (by omega) (by omega) (by omega) h5
        rw [if_pos h5, Option.bind_some, if_pos rfl, if_pos rfl, wrap64_id (by omega) (by omega)]
        by_cases h6 : (l3.length : Int) = B * C
        · rw [if_pos h6]; exact ⟨_, rfl, by rw [beq_iff_eq]; omega⟩
        · rw [if_neg h6]; exact ⟨_, rfl, ⟨fun h => (by cases h), fun h => absurd h (by omega)⟩⟩
      · rw [if_neg h5, if_neg (by decide), Option.bind_some, if_neg (by decide)]; exact ⟨_, rfl, ⟨fun h => (by cases h), fun h => absurd h (by omega)⟩⟩
    · rw [if_neg h4, if_neg (by decide), Option.bind_some, if_neg (by decide)]; exact ⟨_, rfl, ⟨fun h => (by cases h), fun h => absurd h (by omega)⟩⟩
  · rw [if_neg h3]
    by_cases h4 : K = 1
    · subst h4
      rw [if_pos rfl, Option.bind_some]
      by_cases h5 : C = 0
      · subst h5
        rw [if_pos (by decide), if_neg (by decide)]
        by_cases h6 : (l3.length : Int) = 0
        · rw [if_pos h6]; exact ⟨_, rfl, by rw [beq_iff_eq]; omega⟩
        · rw [if_neg h6]; exact ⟨_, rfl, ⟨fun h => (by cases h), fun h => absurd h (by omega)⟩⟩
      · rw [if_neg (by simpa using h5)]; exact ⟨_, rfl, ⟨fun h => (by cases h), fun h => absurd h (by omega)⟩⟩
    · rw [if_neg h4, Option.bind_some, if_neg (by decide)]; exact ⟨_, rfl, ⟨fun h => (by cases h), fun h => absurd h (by omega)⟩⟩
theorem rd_nat (l : List Int) (i : Nat) : rd l (i : Int) = l.getD i 0 := rfl
theorem rd_in {l : List Int} (h : ∀ x ∈ l, InI x) (i : Int) : InI (rd l i) := by
  unfold rd
  by_cases hi : i.toNat < l.length
  · rw [show l.getD i.toNat 0 = l[i.toNat] by simp [List.getD, hi]]; exact h _ (List.getElem_mem _)
  · rw [show l.getD i.toNat 0 = 0 by simp [List.getD, List.getElem?_eq_none (by omega : l.length ≤ i.toNat)]]; exact in0
theorem rdm_in {l : List S54} (h : ∀ m ∈ l, InI m.f0 ∧ InI m.f1 ∧ InI m.f2) (i : Int) (h0 : 0 ≤ i) (h1 : i < (l.length : Int)) : InI (rd_T54 l i).f0 ∧ InI (rd_T54 l i).f1 ∧ InI (rd_T54 l i).f2 := by
  have e : rd_T54 l i ∈ l := by
    unfold rd_T54
    rw [show l.getD i.toNat _ = l[i.toNat]'(by omega) by simp [List.getD, show i.toNat < l.length by omega]]
    exact List.getElem_mem _
  exact h _ e
def Good (r : List Int × Int × Int × Int × Int) : Prop := InI r.2.1 ∧ InI r.2.2.1 ∧ InI r.2.2.2.1
theorem sum_l1 {K B C : Int} {l3 : List Int} {l4 : List S54} (hR : Rt K B C l3 l4) (h3 : ∀ x ∈ l3, InI x) (h4 : ∀ m ∈ l4, InI m.f0 ∧ InI m.f1 ∧ InI m.f2) (t x11 : Int) (x0 : 0 ≤ x11) (x1 : x11 < B) (n : Nat) (hn : n ≠ 0 → K = 0 ∧ (n : Int) = C) (Kd : Nat) {c s q : Int} (ic : InI c) (is_ : InI s) (iq : InI q)
    (IH : ∀ k x9 c s q, Kd < k → x9.length = n → (∀ x ∈ x9, InI x) → InI c → InI s → InI q → ∃ r, hist_Sum.l0 k t x9 (wrap64 (x11 + 1)) K B C l3 l4 c s q = some r ∧ Good r) :
    ∀ (m i k : Nat) (x9 : List Int), i + m = n → Kd + m + 1 < k → x9.length = n → (∀ x ∈ x9, InI x) → ∃ r, hist_Sum.l1 k t x9 x11 (n : Int) (i : Int) K B C l3 l4 c s q = some r ∧ Good r
  | 0, i, k + 1, x9, h, hk, h9, i9 => by
    rw [hist_Sum.l1, if_neg (by omega)]
    by_cases hK : K = 1
    · have hl : (l4.length : Int) = B := by
        obtain ⟨_, h⟩ := hR
        rcases h with h | h
        · omega
        · exact h.2.2.2
      obtain ⟨m0, m1, m2⟩ := rdm_in h4 x11 x0 (by omega)
      obtain ⟨r1, r2, r3, r4, e, i1, i2, i3⟩ := mom_tot ic is_ iq m0 m1 m2
      rw [if_pos hK, if_pos x0, if_pos (by omega), e, Option.bind_some]
      dsimp only
      split
      · exact IH k x9 _ _ _ (by omega) h9 i9 i1 i2 i3
      · exact ⟨_, rfl, in0, in0, in0⟩
    · rw [if_neg hK]
      exact IH k x9 _ _ _ (by omega) h9 i9 ic is_ iq
  | m + 1, i, k + 1, x9, h, hk, h9, i9 => by
    obtain ⟨hK, hC⟩ := hn (by omega)
    obtain ⟨⟨b0, b1⟩, hR'⟩ := hR
    have hR2 : 2 ≤ C ∧ C ≤ 256 ∧ (l3.length : Int) = B * C := by
      rcases hR' with h | h
      · exact ⟨h.2.1, h.2.2.1, h.2.2.2.1⟩
      · omega
    obtain ⟨c0, c1, hl3⟩ := hR2
    obtain ⟨a0, a1⟩ := area b0 b1 (by omega) c1
    have p0 : 0 ≤ x11 * C := Int.mul_nonneg x0 (by omega)
    have p1 : x11 * C + C ≤ B * C := by
      have := Int.mul_le_mul_of_nonneg_right (show x11 + 1 ≤ B by omega) (show 0 ≤ C by omega)
      rw [Int.add_mul, Int.one_mul] at this
      exact this
    rw [hist_Sum.l1, if_pos (by omega), if_pos (by omega), if_pos (by omega), wrap64_id (n := x11 * C) (by omega) (by omega), wrap64_id (n := x11 * C + (i : Int)) (by omega) (by omega), if_pos (by omega), if_pos (by omega)]
    obtain ⟨y, e, hp, iy⟩ := plus_tot (rd_in i9 (i : Int)) (rd_in h3 (x11 * C + (i : Int)))
    rw [hp, Option.bind_some]
    dsimp only
    split
    · rw [wrap64_id (n := (i : Int) + 1) (by omega) (by omega)]
      exact sum_l1 ⟨⟨b0, b1⟩, hR'⟩ h3 h4 t x11 x0 x1 n hn Kd ic is_ iq IH m (i + 1) k _ (by omega) (by omega) (by simpa using h9) (fun x hx => by
        rcases List.mem_or_eq_of_mem_set hx with h | h
        · exact i9 x h
        · rw [h]; exact iy)
    · exact ⟨_, rfl, in0, in0, in0⟩
theorem sum_l0 {K B C : Int} {l3 : List Int} {l4 : List S54} (hR : Rt K B C l3 l4) (h3 : ∀ x ∈ l3, InI x) (h4 : ∀ m ∈ l4, InI m.f0 ∧ InI m.f1 ∧ InI m.f2) (t : Int) (t1 : t ≤ B) (n : Nat) (hn : n ≠ 0 → K = 0 ∧ (n : Int) = C) :
    ∀ (d k : Nat) (x11 : Int) (x9 : List Int) (c s q : Int), x11 + d = t → 0 ≤ x11 → d * (n + 3) < k → x9.length = n → (∀ x ∈ x9, InI x) → InI c → InI s → InI q → ∃ r, hist_Sum.l0 k t x9 x11 K B C l3 l4 c s q = some r ∧ Good r
  | 0, k + 1, x11, x9, c, s, q, h, _, _, _, _, ic, is_, iq => by
    rw [hist_Sum.l0, if_neg (by omega)]
    exact ⟨_, rfl, ic, is_, iq⟩
  | d + 1, k + 1, x11, x9, c, s, q, h, x0, hk, h9, i9, ic, is_, iq => by
    have hb := hR.1
    rw [Nat.succ_mul] at hk
    rw [hist_Sum.l0, if_pos (by omega), h9]
    exact sum_l1 hR h3 h4 t x11 x0 (by omega) n hn (d * (n + 3)) ic is_ iq (fun k x9 c s q hk h9 i9 ic is_ iq => by
      rw [wrap64_id (by omega) (by omega)]
      exact sum_l0 hR h3 h4 t t1 n hn d k (x11 + 1) x9 c s q (by omega) (by omega) hk h9 i9 ic is_ iq) n 0 k x9 (by omega) (by omega) h9 i9
theorem sum_tot {K B C : Int} {l3 : List Int} {l4 : List S54} (hR : Rt K B C l3 l4) (h3 : ∀ x ∈ l3, InI x) (h4 : ∀ m ∈ l4, InI m.f0 ∧ InI m.f1 ∧ InI m.f2) (f t : Int) (f0 : 0 ≤ f) (ft : f ≤ t) (t1 : t ≤ B) :
    ∃ cs c s q e, (∀ k, 70000 ≤ k → hist_Sum.f k K B C l3 l4 f t = some (cs, c, s, q, e)) ∧ InI c ∧ InI s ∧ InI q := by
  obtain ⟨r, hr, hiff⟩ := right_f K B C l3 l4
  have hb := hR.1
  have go : ∃ r, hist_Sum.f 70000 K B C l3 l4 f t = some r ∧ Good r := by
    unfold hist_Sum.f
    rw [hr, hiff.2 hR, Option.bind_some, if_pos rfl, if_neg (by omega), if_neg (by omega), if_neg (by omega)]
    by_cases hK : K = 0
    · have hC : 2 ≤ C ∧ C ≤ 256 := by
        rcases hR.2 with h | h
        · exact ⟨h.2.1, h.2.2.1⟩
        · omega
      rw [if_pos hK, if_pos (by omega), if_pos (by omega), hist_Sum.j0]
      have hd : (t - f).toNat * (C.toNat + 3) ≤ 257 * 259 := Nat.mul_le_mul (by omega) (by omega)
      exact sum_l0 hR h3 h4 t t1 C.toNat (fun _ => ⟨hK, by omega⟩) (t - f).toNat 69999 f _ 0 0 0 (by omega) f0 (by omega) (by simp) (fun x hx => by rw [List.eq_of_mem_replicate hx]; exact in0) in0 in0 in0
    · rw [if_neg hK, hist_Sum.j0]
      exact sum_l0 hR h3 h4 t t1 0 (fun h => absurd rfl h) (t - f).toNat 69999 f _ 0 0 0 (by omega) f0 (by omega) rfl (fun x hx => by cases hx) in0 in0 in0
  obtain ⟨⟨cs, c, s, q, e⟩, hgo, g1, g2, g3⟩ := go
  exact ⟨cs, c, s, q, e, fun k hk => at_rounds (g := fun k => hist_Sum.f k K B C l3 l4 f t) (hist_Sum.mono _ _ _ _ _ _ _) hk hgo, g1, g2, g3⟩
theorem csize_l (l : List Int) (hl : l.length ≤ 256) (h : ∀ x ∈ l, 0 ≤ x) : ∀ (m i k : Nat) (s : Int), i + m = l.length → m < k → 0 ≤ s → s + S1 (l.drop i) ≤ 1048576 → split_classes_size.l0 k s l (l.length : Int) (i : Int) = some (s + S1 (l.drop i))
  | 0, i, k + 1, s, h0, _, _, _ => by
    rw [split_classes_size.l0, if_neg (by omega), List.drop_eq_nil_of_le (by omega)]
    simp [S1]
  | m + 1, i, k + 1, s, h0, hk, s0, s1 => by
    have hx : 0 ≤ l[i]'(by omega) := h _ (List.getElem_mem _)
    have hd := Gi.S1_nonneg (l := l.drop (i + 1)) (fun x hx => h x (List.mem_of_mem_drop hx))
    rw [List.drop_eq_getElem_cons (by omega : i < l.length), S1] at s1 ⊢
    rw [split_classes_size.l0, if_pos (by omega), if_pos (by omega), if_pos (by omega), rd_nat, show l.getD i 0 = l[i]'(by omega) by simp [List.getD, show i < l.length by omega], wrap64_id (n := s + l[i]'(by omega)) (by omega) (by omega), wrap64_id (n := (i : Int) + 1) (by omega) (by omega)]
    have := csize_l l hl h m (i + 1) k (s + l[i]'(by omega)) (by omega) (by omega) (by omega) (by omega)
    rw [show ((i + 1 : Nat) : Int) = (i : Int) + 1 by omega] at this
    rw [this]
    congr 1
    omega
def sizeC (l : List Int) : Int := if Gi.MayG l then S1 l else 0
theorem csize_f (l : List Int) (k : Nat) (hk : 300 ≤ k) : split_classes_size.f k l = some (sizeC l) := by
  unfold split_classes_size.f sizeC
  rw [Gi.may_f l k hk, Option.bind_some]
  by_cases h : Gi.MayG l
  · rw [decide_eq_true h, if_pos rfl, if_pos h]
    have := csize_l l h.2.1 h.2.2.1 l.length 0 k 0 (by omega) (by have := h.2.1; omega) (Int.le_refl _) (by simpa using h.2.2.2)
    rw [show ((0 : Nat) : Int) = 0 from rfl] at this
    rw [this]; simp
  · rw [decide_eq_false h, if_neg (by decide), if_neg h]
def sizeM (c s q : Int) : Int := if Sp.MayP c s q then c else 0
theorem msize_f (k : Nat) (hk : 10 ≤ k) {c s q : Int} (hc : InI c) (hs : InI s) (hq : InI q) : split_means_size.f k c s q = some (sizeM c s q) := by
  unfold split_means_size.f sizeM
  rw [Sp.may_f k hk hc hs hq, Option.bind_some]
  by_cases h : Sp.MayP c s q
  · rw [decide_eq_true h, if_pos rfl, if_pos h]
  · rw [decide_eq_false h, if_neg (by decide), if_neg h]
/-- A fraction's three numbers are of 64 bits. -/
def InF (f : Int × Int × Int) : Prop := (0 ≤ f.1 ∧ f.1 < 18446744073709551616) ∧ (0 ≤ f.2.1 ∧ f.2.1 < 18446744073709551616) ∧ (0 ≤ f.2.2 ∧ f.2.2 < 18446744073709551616)
theorem inF0 : InF (0, 0, 0) := by unfold InF; dsimp only; omega
def fc (f g : Int × Int × Int) : Int := Fr.FC (f.1 * 18446744073709551616 + f.2.1) f.2.2 (g.1 * 18446744073709551616 + g.2.1) g.2.2
theorem fc_f (k : Nat) (hk : 1 ≤ k) {f g : Int × Int × Int} (hf : InF f) (hg : InF g) : frac_Cmp.f k f.1 f.2.1 f.2.2 g.1 g.2.1 g.2.2 = some (fc f g) := Fr.fcmp_f k hk hf.1.1 hf.1.2 hf.2.1.1 hf.2.1.2 hf.2.2.1 hf.2.2.2 hg.1.1 hg.1.2 hg.2.1.1 hg.2.1.2 hg.2.2.1 hg.2.2.2
theorem inF_aloneC (l : List Int) : InF (Gi.aloneD l) := by
  unfold Gi.aloneD
  split
  · rename_i h
    have h2 := Gi.S2_small h.1
    have h1 := Gi.S1_nonneg h.1.2.2.1
    have h3 := h.1.2.2.2
    unfold InF; dsimp only; omega
  · exact inF0
theorem inF_scoreC (a b : List Int) : InF (Gi.scoreD a b) := by
  unfold Gi.scoreD
  split
  · rename_i h
    obtain ⟨u1, u2, u3⟩ := Gi.upper_bound h
    unfold InF Gi.upper; dsimp only; omega
  · exact inF0
def aloneM (c s q : Int) : Int × Int × Int := if 0 < c ∧ Sp.MayP c s q then ((Sp.wideD (s * s)).1, (Sp.wideD (s * s)).2, c) else (0, 0, 0)
def scoreM (c s q c2 s2 q2 : Int) : Int × Int × Int := if (0 < c ∧ Sp.MayP c s q) ∧ (0 < c2 ∧ Sp.MayP c2 s2 q2) then ((Sp.wideD (s * s * c2 + s2 * s2 * c)).1, (Sp.wideD (s * s * c2 + s2 * s2 * c)).2, c * c2) else (0, 0, 0)
theorem inF_aloneM (c s q : Int) : InF (aloneM c s q) := by
  unfold aloneM
  split
  · rename_i h
    obtain ⟨h1, h2, h3⟩ := Sp.there_bound h
    have := h.1
    unfold InF Sp.wideD; dsimp only; omega
  · exact inF0
theorem inF_scoreM (c s q c2 s2 q2 : Int) : InF (scoreM c s q c2 s2 q2) := by
  unfold scoreM
  split
  · rename_i h
    obtain ⟨h1, h2, h3⟩ := Sp.there_bound h.1
    obtain ⟨g1, g2, g3⟩ := Sp.there_bound h.2
    have p1 := h.1.1
    have p2 := h.2.1
    have a0 : 0 ≤ s * s * c2 := Int.mul_nonneg h2 (by omega)
    have a1 : s * s * c2 ≤ 1208925819614629174706176 * 1048576 := Int.mul_le_mul h3 g1 (by omega) (by decide)
    have b0 : 0 ≤ s2 * s2 * c := Int.mul_nonneg g2 (by omega)
    have b1 : s2 * s2 * c ≤ 1208925819614629174706176 * 1048576 := Int.mul_le_mul g3 h1 (by omega) (by decide)
    have d0 : 0 ≤ c * c2 := Int.mul_nonneg (by omega) (by omega)
    have d1 : c * c2 ≤ 1048576 * 1048576 := Int.mul_le_mul h1 g1 (by omega) (by decide)
    unfold InF Sp.wideD; dsimp only; omega
  · exact inF0
theorem cutC {K B C : Int} {c3 : List Int} {c4 : List S54} (h3 : ∀ x ∈ c3, InI x) (h4 : ∀ m ∈ c4, InI m.f0 ∧ InI m.f1 ∧ InI m.f2) (bin : Int) :
    ∃ (A : Bool) (x y : Int) (f : Int × Int × Int), InF f ∧ (A = true → Rt K B C c3 c4 ∧ 0 ≤ bin ∧ bin < B - 1 ∧ f.2.2 ≠ 0) ∧ ∀ k, 70000 ≤ k → ∀ leaf, 1 ≤ leaf → split_CutC.f k K B C c3 c4 bin leaf = some (if A = true ∧ leaf ≤ x ∧ leaf ≤ y then (f.1, f.2.1, f.2.2, true) else (0, 0, 0, false)) := by
  obtain ⟨r, hr, hiff⟩ := right_f K B C c3 c4
  have no : (∀ k leaf, 70000 ≤ k → 1 ≤ leaf → split_CutC.f k K B C c3 c4 bin leaf = some (0, 0, 0, false)) → ∃ (A : Bool) (x y : Int) (f : Int × Int × Int), InF f ∧ (A = true → Rt K B C c3 c4 ∧ 0 ≤ bin ∧ bin < B - 1 ∧ f.2.2 ≠ 0) ∧ ∀ k, 70000 ≤ k → ∀ leaf, 1 ≤ leaf → split_CutC.f k K B C c3 c4 bin leaf = some (if A = true ∧ leaf ≤ x ∧ leaf ≤ y then (f.1, f.2.1, f.2.2, true) else (0, 0, 0, false)) :=
    fun h => ⟨false, 0, 0, (0, 0, 0), inF0, fun h => (by cases h), fun k hk leaf hl => by rw [h k leaf hk hl, if_neg (fun z => by cases z.1)]⟩
  cases r with
  | false => exact no (fun k leaf hk hl => by unfold split_CutC.f; rw [hr, Option.bind_some, if_neg (by decide)])
  | true =>
  have hR := hiff.1 rfl
  have hb := hR.1
  by_cases b0 : bin < 0
  · exact no (fun k leaf hk hl => by unfold split_CutC.f; rw [hr, Option.bind_some, if_pos rfl, if_pos b0])
  have wb : wrap64 (B - 1) = B - 1 := wrap64_id (by omega) (by omega)
  by_cases b1 : bin ≥ B - 1
  · exact no (fun k leaf hk hl => by unfold split_CutC.f; rw [hr, Option.bind_some, if_pos rfl, if_neg b0, wb, if_pos b1])
  have wn : wrap64 (bin + 1) = bin + 1 := wrap64_id (by omega) (by omega)
  obtain ⟨a, a1, a2, a3, ea, Ha, ia1, ia2, ia3⟩ := sum_tot hR h3 h4 0 B (by omega) (by omega) (by omega)
  obtain ⟨l, l1, l2, l3, el, Hl, il1, il2, il3⟩ := sum_tot hR h3 h4 0 (bin + 1) (by omega) (by omega) (by omega)
  obtain ⟨r, r1, r2, r3, er, Hr, ir1, ir2, ir3⟩ := sum_tot hR h3 h4 (bin + 1) B (by omega) (by omega) (by omega)
  have hA : ∀ k, 70000 ≤ k → split_binsC.f k K B C c3 c4 0 B = some (a, ea == 0) := fun k hk => by unfold split_binsC.f; rw [Ha k hk, Option.bind_some]
  have hL : ∀ k, 70000 ≤ k → split_binsC.f k K B C c3 c4 0 (bin + 1) = some (l, el == 0) := fun k hk => by unfold split_binsC.f; rw [Hl k hk, Option.bind_some]
  have hS : ∀ k, 70000 ≤ k → split_binsC.f k K B C c3 c4 (bin + 1) B = some (r, er == 0) := fun k hk => by unfold split_binsC.f; rw [Hr k hk, Option.bind_some]
  refine ⟨(ea == 0) && ((el == 0) && ((er == 0) && (((Gi.scoreD l r).2.2 != 0) && decide (0 < fc (Gi.scoreD l r) (Gi.aloneD a))))), sizeC l, sizeC r, (Gi.scoreD l r), (inF_scoreC l r), ?_, ?_⟩
  · intro h
    simp only [Bool.and_eq_true, bne_iff_ne] at h
    exact ⟨hR, by omega, by omega, h.2.2.2.1⟩
  intro k hk leaf hl
  have e1 : split_classes_score.f k l r = some (Gi.scoreD l r) := by unfold split_classes_score.f; rw [Gi.score_f l r k (by omega), Option.bind_some]
  have e2 : split_classes_alone.f k a = some (Gi.aloneD a) := by unfold split_classes_alone.f; rw [Gi.alone_f a k (by omega), Option.bind_some]
  have e3 := fc_f k (by omega) (inF_scoreC l r) (inF_aloneC a)
  unfold split_CutC.f
  rw [hr, Option.bind_some, if_pos rfl, if_neg b0, wb, if_neg b1, if_neg (by omega), hA k hk, Option.bind_some, wn, hL k hk, Option.bind_some, hS k hk, Option.bind_some]
  dsimp only
  cases h1 : (ea == 0)
  · rw [if_neg (by decide), if_neg (fun z => by simpa using z.1)]
  rw [if_pos rfl]
  cases h2 : (el == 0)
  · rw [if_neg (by decide), if_neg (fun z => by simpa using z.1)]
  rw [if_pos rfl]
  cases h5 : (er == 0)
  · rw [if_neg (by decide), if_neg (fun z => by simpa using z.1)]
  rw [if_pos rfl, csize_f l k (by omega), Option.bind_some]
  by_cases x1 : sizeC l < leaf
  · rw [if_pos x1, if_neg (fun z => by have := z.2.1; omega)]
  rw [if_neg x1, csize_f r k (by omega), Option.bind_some]
  by_cases x2 : sizeC r < leaf
  · rw [if_pos x2, if_neg (fun z => by have := z.2.2; omega)]
  rw [if_neg x2, e1, Option.bind_some, Fr.right_f, Option.bind_some]
  cases h6 : ((Gi.scoreD l r).2.2 != 0)
  · rw [if_neg (by decide), if_neg (fun z => by simpa using z.1)]
  rw [if_pos rfl, e2, Option.bind_some, e3, Option.bind_some]
  by_cases x3 : fc (Gi.scoreD l r) (Gi.aloneD a) ≤ 0
  · rw [if_pos x3, if_neg (fun z => by have := z.1; simp at this; omega)]
  · rw [if_neg x3, if_pos ⟨by simp; omega, by omega, by omega⟩]
theorem cutM {K B C : Int} {c3 : List Int} {c4 : List S54} (h3 : ∀ x ∈ c3, InI x) (h4 : ∀ m ∈ c4, InI m.f0 ∧ InI m.f1 ∧ InI m.f2) (bin : Int) :
    ∃ (A : Bool) (x y : Int) (f : Int × Int × Int), InF f ∧ (A = true → Rt K B C c3 c4 ∧ 0 ≤ bin ∧ bin < B - 1 ∧ f.2.2 ≠ 0) ∧ ∀ k, 70000 ≤ k → ∀ leaf, 1 ≤ leaf → split_CutM.f k K B C c3 c4 bin leaf = some (if A = true ∧ leaf ≤ x ∧ leaf ≤ y then (f.1, f.2.1, f.2.2, true) else (0, 0, 0, false)) := by
  obtain ⟨r, hr, hiff⟩ := right_f K B C c3 c4
  have no : (∀ k leaf, 70000 ≤ k → 1 ≤ leaf → split_CutM.f k K B C c3 c4 bin leaf = some (0, 0, 0, false)) → ∃ (A : Bool) (x y : Int) (f : Int × Int × Int), InF f ∧ (A = true → Rt K B C c3 c4 ∧ 0 ≤ bin ∧ bin < B - 1 ∧ f.2.2 ≠ 0) ∧ ∀ k, 70000 ≤ k → ∀ leaf, 1 ≤ leaf → split_CutM.f k K B C c3 c4 bin leaf = some (if A = true ∧ leaf ≤ x ∧ leaf ≤ y then (f.1, f.2.1, f.2.2, true) else (0, 0, 0, false)) :=
    fun h => ⟨false, 0, 0, (0, 0, 0), inF0, fun h => (by cases h), fun k hk leaf hl => by rw [h k leaf hk hl, if_neg (fun z => by cases z.1)]⟩
  cases r with
  | false => exact no (fun k leaf hk hl => by unfold split_CutM.f; rw [hr, Option.bind_some, if_neg (by decide)])
  | true =>
  have hR := hiff.1 rfl
  have hb := hR.1
  by_cases b0 : bin < 0
  · exact no (fun k leaf hk hl => by unfold split_CutM.f; rw [hr, Option.bind_some, if_pos rfl, if_pos b0])
  have wb : wrap64 (B - 1) = B - 1 := wrap64_id (by omega) (by omega)
  by_cases b1 : bin ≥ B - 1
  · exact no (fun k leaf hk hl => by unfold split_CutM.f; rw [hr, Option.bind_some, if_pos rfl, if_neg b0, wb, if_pos b1])
  have wn : wrap64 (bin + 1) = bin + 1 := wrap64_id (by omega) (by omega)
  obtain ⟨a, a1, a2, a3, ea, Ha, ia1, ia2, ia3⟩ := sum_tot hR h3 h4 0 B (by omega) (by omega) (by omega)
  obtain ⟨l, l1, l2, l3, el, Hl, il1, il2, il3⟩ := sum_tot hR h3 h4 0 (bin + 1) (by omega) (by omega) (by omega)
  obtain ⟨r, r1, r2, r3, er, Hr, ir1, ir2, ir3⟩ := sum_tot hR h3 h4 (bin + 1) B (by omega) (by omega) (by omega)
  have hA : ∀ k, 70000 ≤ k → split_binsM.f k K B C c3 c4 0 B = some (a1, a2, a3, ea == 0) := fun k hk => by unfold split_binsM.f; rw [Ha k hk, Option.bind_some]
  have hL : ∀ k, 70000 ≤ k → split_binsM.f k K B C c3 c4 0 (bin + 1) = some (l1, l2, l3, el == 0) := fun k hk => by unfold split_binsM.f; rw [Hl k hk, Option.bind_some]
  have hS : ∀ k, 70000 ≤ k → split_binsM.f k K B C c3 c4 (bin + 1) B = some (r1, r2, r3, er == 0) := fun k hk => by unfold split_binsM.f; rw [Hr k hk, Option.bind_some]
  refine ⟨(ea == 0) && ((el == 0) && ((er == 0) && (((scoreM l1 l2 l3 r1 r2 r3).2.2 != 0) && decide (0 < fc (scoreM l1 l2 l3 r1 r2 r3) (aloneM a1 a2 a3))))), sizeM l1 l2 l3, sizeM r1 r2 r3, (scoreM l1 l2 l3 r1 r2 r3), (inF_scoreM l1 l2 l3 r1 r2 r3), ?_, ?_⟩
  · intro h
    simp only [Bool.and_eq_true, bne_iff_ne] at h
    exact ⟨hR, by omega, by omega, h.2.2.2.1⟩
  intro k hk leaf hl
  have e1 : split_means_score.f k l1 l2 l3 r1 r2 r3 = some (scoreM l1 l2 l3 r1 r2 r3) := by unfold split_means_score.f; rw [Sp.score_f k (by omega) il1 il2 il3 ir1 ir2 ir3, Option.bind_some]; rfl
  have e2 : split_means_alone.f k a1 a2 a3 = some (aloneM a1 a2 a3) := by unfold split_means_alone.f; rw [Sp.alone_f k (by omega) ia1 ia2 ia3, Option.bind_some]; rfl
  have e3 := fc_f k (by omega) (inF_scoreM l1 l2 l3 r1 r2 r3) (inF_aloneM a1 a2 a3)
  unfold split_CutM.f
  rw [hr, Option.bind_some, if_pos rfl, if_neg b0, wb, if_neg b1, if_neg (by omega), hA k hk, Option.bind_some, wn, hL k hk, Option.bind_some, hS k hk, Option.bind_some]
  dsimp only
  cases h1 : (ea == 0)
  · rw [if_neg (by decide), if_neg (fun z => by simpa using z.1)]
  rw [if_pos rfl]
  cases h2 : (el == 0)
  · rw [if_neg (by decide), if_neg (fun z => by simpa using z.1)]
  rw [if_pos rfl]
  cases h5 : (er == 0)
  · rw [if_neg (by decide), if_neg (fun z => by simpa using z.1)]
  rw [if_pos rfl, msize_f k (by omega) il1 il2 il3, Option.bind_some]
  by_cases x1 : sizeM l1 l2 l3 < leaf
  · rw [if_pos x1, if_neg (fun z => by have := z.2.1; omega)]
  rw [if_neg x1, msize_f k (by omega) ir1 ir2 ir3, Option.bind_some]
  by_cases x2 : sizeM r1 r2 r3 < leaf
  · rw [if_pos x2, if_neg (fun z => by have := z.2.2; omega)]
  rw [if_neg x2, e1, Option.bind_some, Fr.right_f, Option.bind_some]
  cases h6 : ((scoreM l1 l2 l3 r1 r2 r3).2.2 != 0)
  · rw [if_neg (by decide), if_neg (fun z => by simpa using z.1)]
  rw [if_pos rfl, e2, Option.bind_some, e3, Option.bind_some]
  by_cases x3 : fc (scoreM l1 l2 l3 r1 r2 r3) (aloneM a1 a2 a3) ≤ 0
  · rw [if_pos x3, if_neg (fun z => by have := z.1; simp at this; omega)]
  · rw [if_neg x3, if_pos ⟨by simp; omega, by omega, by omega⟩]
theorem cut_form {K B C : Int} {c3 : List Int} {c4 : List S54} (h3 : ∀ x ∈ c3, InI x) (h4 : ∀ m ∈ c4, InI m.f0 ∧ InI m.f1 ∧ InI m.f2) (bin : Int) :
    ∃ (A : Bool) (x y : Int) (f : Int × Int × Int), InF f ∧ (A = true → Rt K B C c3 c4 ∧ 0 ≤ bin ∧ bin < B - 1 ∧ f.2.2 ≠ 0) ∧ ∀ k, 70000 ≤ k → ∀ leaf, 1 ≤ leaf → split_Cut.f k K B C c3 c4 bin leaf = some (if A = true ∧ leaf ≤ x ∧ leaf ≤ y then (f.1, f.2.1, f.2.2, true) else (0, 0, 0, false)) := by
  unfold split_Cut.f
  by_cases h : K = 0
  · simp only [if_pos h]
    exact cutC h3 h4 bin
  · simp only [if_neg h]
    exact cutM h3 h4 bin
theorem fixed_f (k : Nat) (hk : 60 ≤ k) : hornbeamlaw16_fixed.f k = some true := at_rounds (g := fun k => hornbeamlaw16_fixed.f k) hornbeamlaw16_fixed.mono hk (by decide +kernel)
end SplitLeaf0
open SplitLeaf0
theorem SplitLeaf : hornbeamlaw16_SplitLeaf.Pure := by
  intro K B C c3 c4 bin p q _ _ _ w3 w4 _ wp wq
  refine ⟨70000, ?_⟩
  have hf := fixed_f 70000 (by omega)
  have go : hornbeamlaw16_SplitLeaf.f 70000 K B C c3 c4 bin p q = some true := by
    unfold hornbeamlaw16_SplitLeaf.f
    by_cases hg : hornbeamlaw12_Great.f K B C c3 c4 = some true
    · rw [hg, Option.bind_some, if_pos rfl, hf, Option.bind_some]
    · have hg2 : hornbeamlaw12_Great.f K B C c3 c4 = some false := by
        unfold hornbeamlaw12_Great.f at hg ⊢
        split at hg
        · exact absurd rfl hg
        · rename_i h1
          rw [if_neg h1]
          cases h2 : decide ((c4.length : Int) > 300) with
          | true => rw [h2] at hg; exact absurd rfl hg
          | false => rfl
      obtain ⟨A, x, y, f, _, _, hc⟩ := cut_form (K := K) (B := B) (C := C) (fun x hx => wf_in (w3.2 x hx)) (fun m hm => ⟨wf_in (w4.2 m hm).1, wf_in (w4.2 m hm).2.1, wf_in (w4.2 m hm).2.2⟩) bin
      have hp : 0 ≤ p ∧ p ≤ 65535 := by
        have h1 : (decide (0 ≤ p) && decide (p ≤ 65535)) = true := wp
        simpa using h1
      have hq : 0 ≤ q ∧ q ≤ 65535 := by
        have h1 : (decide (0 ≤ q) && decide (q ≤ 65535)) = true := wq
        simpa using h1
      have ha : wrap64 (1 + wrap64 (mn p q)) = 1 + mn p q := by
        unfold mn
        split
        · rw [wrap64_id (n := q) (by omega) (by omega), wrap64_id (by omega) (by omega)]
        · rw [wrap64_id (n := p) (by omega) (by omega), wrap64_id (by omega) (by omega)]
      have hb : wrap64 (1 + wrap64 (mx p q)) = 1 + mx p q := by
        unfold mx
        split
        · rw [wrap64_id (n := q) (by omega) (by omega), wrap64_id (by omega) (by omega)]
        · rw [wrap64_id (n := p) (by omega) (by omega), wrap64_id (by omega) (by omega)]
      have m1 : 0 ≤ mn p q := by unfold mn; split <;> omega
      have m2 : mn p q ≤ mx p q := by unfold mn mx; split <;> split <;> omega
      rw [hg2, Option.bind_some, if_neg (by decide), ha, hb, hc 70000 (Nat.le_refl _) _ (by omega), Option.bind_some, hc 70000 (Nat.le_refl _) _ (by omega), Option.bind_some, hf, Option.bind_some, if_pos rfl]
      by_cases h1 : A = true ∧ 1 + mx p q ≤ x ∧ 1 + mx p q ≤ y
      · have h2 : A = true ∧ 1 + mn p q ≤ x ∧ 1 + mn p q ≤ y := ⟨h1.1, by omega, by omega⟩
        rw [if_pos h1, if_pos h2]
        dsimp only
        rw [if_pos rfl, if_pos rfl, if_pos (by simp)]
      · rw [if_neg h1, if_neg (by decide)]
        by_cases h2 : A = true ∧ 1 + mn p q ≤ x ∧ 1 + mn p q ≤ y
        · rw [if_pos h2]
          dsimp only
          rw [if_pos rfl]
        · rw [if_neg h2, if_neg (by decide)]; rfl
  exact go
end Go.Proofs.Ytancajnbjmcamaa.Pure
