/- The law SplitBest answers true. No condition. -/
import Derived.Test.YtancajnbjmcamaaQSplitBestx11
import Derived.Test.YtancajnbjmcamaaUP64
import Derived.Test.YtancajnbjmcamaaSums
import Derived.Test.YtancajnbjmcamaaDig
namespace Go.Proofs.Ytancajnbjmcamaa.Pure
open Go.RowKit Go.Proofs.Ytancajnbjmcamaa.QSplitBest Go.Proofs.YtancajnbjmcamaaW.PrintWords Go.Proofs.YtancajnbjmcamaaW.PrintLast
open Go.Proofs.Ytancajnbjmcamaa.P64 Go.Proofs.Ytancajnbjmcamaa.Sums
namespace SplitBest0
namespace Gi
theorem mul_f (a b : Int) : prod_Mul.f a b = some (mul64 a b) := rfl
theorem mul_eq {a b : Int} (a0 : 0 ≤ a) (a1 : a < 18446744073709551616) (b0 : 0 ≤ b) (b1 : b < 18446744073709551616) :
    prod_Mul.f a b = some (a * b / 18446744073709551616, a * b % 18446744073709551616) := by rw [mul_f, mul64_eq a0 a1 b0 b1]
theorem add64_f {a b c : Int} (a0 : 0 ≤ a) (b0 : 0 ≤ b) (c0 : 0 ≤ c) (c1 : c ≤ 1) : bits_Add64.f a b c = some ((a + b + c) % 18446744073709551616, (a + b + c) / 18446744073709551616) := by
  unfold bits_Add64.f
  rw [if_pos ⟨a0, b0, c0, c1⟩]
theorem add_f {a b c d : Int} (a0 : 0 ≤ a) (a1 : a < 18446744073709551616) (b0 : 0 ≤ b) (b1 : b < 18446744073709551616) (c0 : 0 ≤ c) (c1 : c < 18446744073709551616) (d0 : 0 ≤ d) (d1 : d < 18446744073709551616) :
    prod_Add.f a b c d = some (wideSum (a * 18446744073709551616 + b + (c * 18446744073709551616 + d))) := by
  unfold prod_Add.f
  rw [add64_f b0 d0 (by omega) (by omega), Option.bind_some, add64_f a0 c0 (by omega) (by omega), Option.bind_some]
  unfold wideSum
  have e1 : (b + d + 0) / 18446744073709551616 = (b + d) / 18446744073709551616 := by rw [Int.add_zero]
  have e2 : (a * 18446744073709551616 + b + (c * 18446744073709551616 + d)) / 18446744073709551616 = a + c + (b + d) / 18446744073709551616 := by omega
  have e3 : (a * 18446744073709551616 + b + (c * 18446744073709551616 + d)) % 18446744073709551616 = (b + d) % 18446744073709551616 := by omega
  rw [e1, e2, e3, Int.add_zero]
  by_cases h : (a + c + (b + d) / 18446744073709551616) / 18446744073709551616 = 0
  · rw [if_pos h, if_pos (by omega), Int.emod_eq_of_lt (a := a + c + (b + d) / 18446744073709551616) (by omega) (by omega)]
  · rw [if_neg h, if_neg (by omega)]
def MayG (l : List Int) : Prop := 2 ≤ l.length ∧ l.length ≤ 256 ∧ (∀ x ∈ l, 0 ≤ x) ∧ S1 l ≤ 1048576
instance (l : List Int) : Decidable (MayG l) := by unfold MayG; exact inferInstance
theorem S1_nonneg {l : List Int} (h : ∀ x ∈ l, 0 ≤ x) : 0 ≤ S1 l := by
  induction l with
  | nil => exact Int.le_refl _
  | cons x l ih =>
    have h1 := h x List.mem_cons_self
    have h2 := ih fun y hy => h y (List.mem_cons_of_mem _ hy)
    rw [S1]; omega
theorem rd_nat (l : List Int) (i : Nat) : rd l (i : Int) = l.getD i 0 := rfl
theorem may_l (l : List Int) (hl : l.length ≤ 256) (d : Nat) : ∀ (k i : Nat) (s : Int), i + d = l.length → d < k → 0 ≤ s → s ≤ 1048576 * (i : Int) →
    gini_May.l0 k s l (l.length : Int) (i : Int) = some (decide ((∀ x ∈ l.drop i, 0 ≤ x) ∧ s + S1 (l.drop i) ≤ 1048576)) ∨ (gini_May.l0 k s l (l.length : Int) (i : Int) = some false ∧ ¬ ((∀ x ∈ l.drop i, 0 ≤ x) ∧ s + S1 (l.drop i) ≤ 1048576)) := by
  induction d with
  | zero =>
    intro k i s hi hk s0 s1
    obtain ⟨k, rfl⟩ : ∃ m, k = m + 1 := ⟨k - 1, by omega⟩
    left
    rw [gini_May.l0, if_neg (by omega), List.drop_eq_nil_of_le (by omega)]
    congr 1
    rw [decide_eq_decide, S1]
    exact ⟨fun h => ⟨(fun x hx => by cases hx), by omega⟩, fun h => by omega⟩
  | succ d ih =>
    intro k i s hi hk s0 s1
    obtain ⟨k, rfl⟩ : ∃ m, k = m + 1 := ⟨k - 1, by omega⟩
    have hlt : i < l.length := by omega
    have e : l.getD i 0 = l[i] := by simp [List.getD, hlt]
    rw [gini_May.l0, if_pos (by omega), if_pos (by omega), if_pos (by omega), rd_nat, e, List.drop_eq_getElem_cons hlt, show wrap64 ((i : Int) + 1) = ((i + 1 : Nat) : Int) by unfold wrap64; omega]
    by_cases h1 : l[i] < 0
    · rw [if_pos h1]
      exact .inr ⟨rfl, fun h => by have := h.1 l[i] List.mem_cons_self; omega⟩
    · rw [if_neg h1]
      by_cases h2 : l[i] > 1048576
      · rw [if_pos h2]
        refine .inr ⟨rfl, fun h => ?_⟩
        have := S1_nonneg (l := l.drop (i + 1)) fun y hy => h.1 y (List.mem_cons_of_mem _ hy)
        have h3 := h.2
        rw [S1] at h3
        omega
      · rw [if_neg h2, wrap64_id (n := s + l[i]) (by omega) (by omega)]
        have := ih k (i + 1) (s + l[i]) (by omega) (by omega) (by omega) (by omega)
        have hiff : ((∀ x ∈ l[i] :: l.drop (i + 1), 0 ≤ x) ∧ s + S1 (l[i] :: l.drop (i + 1)) ≤ 1048576) ↔ ((∀ x ∈ l.drop (i + 1), 0 ≤ x) ∧ s + l[i] + S1 (l.drop (i + 1)) ≤ 1048576) := by
          rw [S1]
          constructor
          · intro h; exact ⟨fun y hy => h.1 y (List.mem_cons_of_mem _ hy), by omega⟩
          · intro h
            refine ⟨fun y hy => ?_, by omega⟩
            rcases List.mem_cons.1 hy with rfl | hy
            · omega
            · exact h.1 y hy
        rw [decide_eq_decide.2 hiff, hiff]
        exact this
theorem may_f (l : List Int) (k : Nat) (hk : 300 ≤ k) : gini_May.f k l = some (decide (MayG l)) := by
  obtain ⟨k, rfl⟩ : ∃ m, k = m + 1 := ⟨k - 1, by omega⟩
  have jt : gini_May.j0 (k + 1) l true = some false := by rw [gini_May.j0, if_pos rfl]
  unfold gini_May.f
  by_cases h1 : (l.length : Int) < 2
  · rw [if_pos h1, jt, decide_eq_false (fun h => by have := h.1; omega)]
  · rw [if_neg h1]
    by_cases h2 : (l.length : Int) > 256
    · rw [decide_eq_true h2, jt, decide_eq_false (fun h => by have := h.2.1; omega)]
    · rw [decide_eq_false h2, gini_May.j0, if_neg (by decide)]
      have hm : MayG l ↔ ((∀ x ∈ l.drop 0, 0 ≤ x) ∧ 0 + S1 (l.drop 0) ≤ 1048576) := by
        unfold MayG
        rw [List.drop_zero, Int.zero_add]
        exact ⟨fun h => h.2.2, fun h => ⟨by omega, by omega, h⟩⟩
      rcases may_l l (by omega) l.length k 0 0 (by omega) (by omega) (by omega) (by omega) with h | h
      · refine (show gini_May.l0 k 0 l (l.length : Int) 0 = _ from h).trans ?_
        rw [decide_eq_decide.2 hm]
      · refine (show gini_May.l0 k 0 l (l.length : Int) 0 = _ from h.1).trans ?_
        rw [decide_eq_false (fun h2 => h.2 (hm.1 h2))]
theorem total_s (l : List Int) (h : ∀ x ∈ l, 0 ≤ x) : ∀ s : Int, 0 ≤ s → s + S1 l ≤ 4294967296 → l.foldl (fun acc x => IntKind.u64.wrap (acc + gini_total.g (IntKind.u64.wrap x))) s = s + S1 l := by
  induction l with
  | nil => intro s _ _; simp [S1]
  | cons x l ih =>
    intro s s0 s1
    have h1 := h x List.mem_cons_self
    have h2 := S1_nonneg (l := l) fun y hy => h y (List.mem_cons_of_mem _ hy)
    rw [S1] at s1
    rw [List.foldl_cons, uwrap_id (n := x) h1 (by omega)]
    unfold gini_total.g
    rw [uwrap_id (n := s + x) (by omega) (by omega)]
    have := ih (fun y hy => h y (List.mem_cons_of_mem _ hy)) (s + x) (by omega) (by omega)
    unfold gini_total.g at this
    rw [this, S1]; omega
theorem total_f {l : List Int} (h : MayG l) : gini_total.f l = some (S1 l) := by
  unfold gini_total.f gini_total.s
  rw [if_pos (by have := h.2.1; omega), total_s l h.2.2.1 0 (by omega) (by have := h.2.2.2; omega), Int.zero_add]
theorem S2_le {l : List Int} (h : ∀ x ∈ l, 0 ≤ x) : 0 ≤ S2 l ∧ S2 l ≤ S1 l * S1 l := by
  induction l with
  | nil => simp [S1, S2]
  | cons x l ih =>
    have h1 := h x List.mem_cons_self
    have hl := fun y hy => h y (List.mem_cons_of_mem _ hy)
    have h2 := ih hl
    have h3 := S1_nonneg hl
    have h4 := Int.mul_nonneg h1 h1
    have h5 := Int.mul_nonneg h1 h3
    have e : (x + S1 l) * (x + S1 l) = x * x + 2 * (x * S1 l) + S1 l * S1 l := by rw [Int.add_mul, Int.mul_add, Int.mul_add, Int.mul_comm (S1 l) x]; omega
    rw [S1, S2, e]; omega
theorem squares_s (l : List Int) (h : ∀ x ∈ l, 0 ≤ x) (hs : S1 l ≤ 1048576) : ∀ s : Int, 0 ≤ s → s + S2 l ≤ 1099511627776 → l.foldl (fun acc x => IntKind.u64.wrap (acc + gini_squares.g (IntKind.u64.wrap x))) s = s + S2 l := by
  induction l with
  | nil => intro s _ _; simp [S2]
  | cons x l ih =>
    intro s s0 s1
    have h1 := h x List.mem_cons_self
    have hl := fun y hy => h y (List.mem_cons_of_mem _ hy)
    have h2 := S1_nonneg (l := l) hl
    have h3 := S2_le (l := l) hl
    have h4 := Int.mul_nonneg h1 h1
    rw [S1] at hs
    rw [S2] at s1
    rw [List.foldl_cons, uwrap_id (n := x) h1 (by omega)]
    unfold gini_squares.g
    rw [uwrap_id (n := x * x) h4 (by omega), uwrap_id (n := s + x * x) (by omega) (by omega)]
    have := ih hl (by omega) (s + x * x) (by omega) (by omega)
    unfold gini_squares.g at this
    rw [this, S2]; omega
theorem S2_small {l : List Int} (h : MayG l) : 0 ≤ S2 l ∧ S2 l ≤ 1099511627776 := by
  have h1 := S2_le h.2.2.1
  have h2 := S1_nonneg h.2.2.1
  have h3 := h.2.2.2
  have h4 := Int.mul_le_mul (a := S1 l) (b := S1 l) (c := 1048576) (d := 1048576) h3 h3 h2 (by omega)
  omega
theorem squares_f {l : List Int} (h : MayG l) : gini_squares.f l = some (S2 l) := by
  have := S2_small h
  unfold gini_squares.f gini_squares.s
  rw [if_pos (by have := h.2.1; omega), squares_s l h.2.2.1 h.2.2.2 0 (by omega) (by omega), Int.zero_add]
/-- How well counts are apart. -/
def aloneD (l : List Int) : Int × Int × Int := if MayG l ∧ S1 l ≠ 0 then (0, S2 l, S1 l) else (0, 0, 0)
theorem alone_f (l : List Int) (k : Nat) (hk : 301 ≤ k) : gini_Alone.f k l = some (aloneD l) := by
  obtain ⟨k, rfl⟩ : ∃ m, k = m + 1 := ⟨k - 1, by omega⟩
  have jt : gini_Alone.j0 (k + 1) l true = some (0, 0, 0) := by rw [gini_Alone.j0, if_pos rfl]
  unfold gini_Alone.f aloneD
  rw [may_f l _ (by omega), Option.bind_some]
  by_cases h : MayG l
  · rw [decide_eq_true h, if_pos rfl, total_f h, Option.bind_some]
    by_cases h0 : S1 l = 0
    · rw [show (S1 l == 0) = true from beq_iff_eq.2 h0, jt, if_neg (show ¬ (MayG l ∧ S1 l ≠ 0) from fun h2 => h2.2 h0)]
    · rw [show (S1 l == 0) = false from beq_eq_false_iff_ne.2 h0, gini_Alone.j0, if_neg (by decide), squares_f h, Option.bind_some, total_f h, Option.bind_some, if_pos (show MayG l ∧ S1 l ≠ 0 from ⟨h, h0⟩)]
  · rw [decide_eq_false h, if_neg (by decide), jt, if_neg (show ¬ (MayG l ∧ S1 l ≠ 0) from fun h2 => h h2.1)]
/-- May these two be sides, both with targets? -/
def Sides (a b : List Int) : Prop := MayG a ∧ MayG b ∧ a.length = b.length ∧ S1 a ≠ 0 ∧ S1 b ≠ 0
instance (a b : List Int) : Decidable (Sides a b) := by unfold Sides; exact inferInstance
/-- The upper number of two sides. -/
def upper (a b : List Int) : Int := S2 a * S1 b + S2 b * S1 a
def scoreD (a b : List Int) : Int × Int × Int := if Sides a b then (upper a b / 18446744073709551616, upper a b % 18446744073709551616, S1 a * S1 b) else (0, 0, 0)
theorem upper_bound {a b : List Int} (h : Sides a b) : (0 ≤ S2 a * S1 b ∧ S2 a * S1 b ≤ 1099511627776 * 1048576) ∧ (0 ≤ S2 b * S1 a ∧ S2 b * S1 a ≤ 1099511627776 * 1048576) ∧ (0 ≤ S1 a * S1 b ∧ S1 a * S1 b ≤ 1048576 * 1048576) := by
  obtain ⟨ha, hb, _, _, _⟩ := h
  have a1 := S2_small ha; have b1 := S2_small hb
  have a2 := S1_nonneg ha.2.2.1; have b2 := S1_nonneg hb.2.2.1
  have a3 := ha.2.2.2; have b3 := hb.2.2.2
  exact ⟨⟨Int.mul_nonneg a1.1 b2, Int.mul_le_mul a1.2 b3 b2 (by omega)⟩, ⟨Int.mul_nonneg b1.1 a2, Int.mul_le_mul b1.2 a3 a2 (by omega)⟩, ⟨Int.mul_nonneg a2 b2, Int.mul_le_mul a3 b3 b2 (by omega)⟩⟩
theorem score_f (a b : List Int) (k : Nat) (hk : 301 ≤ k) : gini_Score.f k a b = some (scoreD a b) := by
  obtain ⟨k, rfl⟩ : ∃ m, k = m + 1 := ⟨k - 1, by omega⟩
  have jt : gini_Score.j0 (k + 1) a b true = some (0, 0, 0) := by rw [gini_Score.j0, if_pos rfl]
  have no : ∀ h : ¬ Sides a b, some (0, 0, 0) = some (scoreD a b) := fun h => by unfold scoreD; rw [if_neg h]
  unfold gini_Score.f
  rw [may_f a _ (by omega), Option.bind_some]
  by_cases ha : MayG a
  · rw [decide_eq_true ha, if_pos rfl, may_f b _ (by omega), Option.bind_some]
    by_cases hb : MayG b
    · rw [decide_eq_true hb, if_pos rfl]
      by_cases hl : (a.length : Int) = (b.length : Int)
      · rw [if_pos hl, total_f ha, Option.bind_some]
        by_cases h1 : S1 a = 0
        · rw [if_pos h1, jt]; exact no (fun h => h.2.2.2.1 h1)
        · rw [if_neg h1, total_f hb, Option.bind_some]
          by_cases h2 : S1 b = 0
          · rw [show (S1 b == 0) = true from beq_iff_eq.2 h2, jt]; exact no (fun h => h.2.2.2.2 h2)
          · have hs : Sides a b := ⟨ha, hb, by omega, h1, h2⟩
            have a1 := S2_small ha; have b1 := S2_small hb
            have a2 := S1_nonneg ha.2.2.1; have b2 := S1_nonneg hb.2.2.1
            have a3 := ha.2.2.2; have b3 := hb.2.2.2
            obtain ⟨u1, u2, u3⟩ := upper_bound hs
            rw [show (S1 b == 0) = false from beq_eq_false_iff_ne.2 h2, gini_Score.j0, if_neg (by decide), total_f ha, Option.bind_some, total_f hb, Option.bind_some, squares_f ha, Option.bind_some, mul_eq (by omega) (by omega) (by omega) (by omega), Option.bind_some,
              squares_f hb, Option.bind_some, mul_eq (by omega) (by omega) (by omega) (by omega), Option.bind_some, add_f (by omega) (by omega) (by omega) (by omega) (by omega) (by omega) (by omega) (by omega), Option.bind_some, uwrap_id (n := S1 a * S1 b) (by omega) (by omega)]
            have e : S2 a * S1 b / 18446744073709551616 * 18446744073709551616 + S2 a * S1 b % 18446744073709551616 + (S2 b * S1 a / 18446744073709551616 * 18446744073709551616 + S2 b * S1 a % 18446744073709551616) = upper a b := by unfold upper; omega
            rw [e]
            unfold wideSum scoreD
            rw [if_pos (show upper a b < 340282366920938463463374607431768211456 by unfold upper; omega), if_pos hs]
      · rw [if_neg hl, jt]; exact no (fun h => hl (by rw [h.2.2.1]))
    · rw [decide_eq_false hb, if_neg (by decide), jt]; exact no (fun h => hb h.2.1)
  · rw [decide_eq_false ha, if_neg (by decide), jt]; exact no (fun h => ha h.1)
end Gi
namespace Sp
theorem compare_f (a b : Int) : cmp_Compare_uint64.f a b = some (cmpI a b) := by
  unfold cmp_Compare_uint64.f cmp_isNaN_uint64.f cmpI
  rw [Option.bind_some, Option.bind_some, if_neg (by simp), if_neg (by simp)]
  split
  · rfl
  · split <;> rfl
theorem or_f (k : Nat) (hk : 3 ≤ k) (a b : Int) : cmp_Or_int.f k [a, b] = some (if a = 0 then b else a) := by
  obtain ⟨k, rfl⟩ : ∃ m, k = m + 3 := ⟨k - 3, by omega⟩
  unfold cmp_Or_int.f
  rw [cmp_Or_int.l0, if_pos (by simp), if_pos (by omega), if_pos (by simp)]
  rw [show rd [a, b] 0 = a from rfl, show wrap64 (0 + 1) = 1 by unfold wrap64; omega]
  by_cases ha : a = 0
  · rw [if_pos ha, cmp_Or_int.l0, if_pos (by simp), if_pos (by omega), if_pos (by simp), show rd [a, b] 1 = b from rfl, show wrap64 (1 + 1) = 2 by unfold wrap64; omega, if_pos ha]
    by_cases hb : b = 0
    · rw [if_pos hb, cmp_Or_int.l0, if_neg (by simp), hb]
    · rw [if_neg hb]
  · rw [if_neg ha, if_neg ha]
theorem cmp_f (k : Nat) (hk : 3 ≤ k) (X Y : Int) : prod_Cmp.f k (X / 18446744073709551616) (X % 18446744073709551616) (Y / 18446744073709551616) (Y % 18446744073709551616) = some (cmpI X Y) := by
  unfold prod_Cmp.f
  rw [compare_f, Option.bind_some, compare_f, Option.bind_some, or_f k hk, Option.bind_some]
  congr 1
  unfold cmpI
  by_cases h1 : X / 18446744073709551616 < Y / 18446744073709551616
  · rw [if_pos h1, if_neg (by decide), if_pos (by omega)]
  · rw [if_neg h1]
    by_cases h2 : Y / 18446744073709551616 < X / 18446744073709551616
    · rw [if_pos h2, if_neg (by decide), if_neg (by omega), if_pos (by omega)]
    · rw [if_neg h2, if_pos rfl]
      by_cases h3 : X % 18446744073709551616 < Y % 18446744073709551616
      · rw [if_pos h3, if_pos (by omega)]
      · rw [if_neg h3, if_neg (show ¬ X < Y by omega)]
        by_cases h4 : Y % 18446744073709551616 < X % 18446744073709551616
        · rw [if_pos h4, if_pos (by omega)]
        · rw [if_neg h4, if_neg (by omega)]
theorem size_f (a : Int) : prod_size.f a = some (sizeI a) := by unfold prod_size.f sizeI; split <;> rfl
theorem mul_f (a b : Int) : prod_Mul.f a b = some (mul64 a b) := rfl
/-- A wide number's words. -/
def wideD (X : Int) : Int × Int := (X / 18446744073709551616, X % 18446744073709551616)
theorem square_f {a : Int} (a0 : -9223372036854775808 ≤ a) (a1 : a ≤ 9223372036854775807) : prod_Square.f a = some (wideD (a * a)) := by
  unfold prod_Square.f wideD
  rw [size_f, Option.bind_some, Option.bind_some, mul_f, Option.bind_some, sizeI_eq a0 a1, mul64_eq (by omega) (by omega) (by omega) (by omega), Int.natAbs_mul_self']
/-- May these be a moment's numbers? -/
def MayP (c s q : Int) : Prop := (c = 0 ∧ s = 0 ∧ q = 0) ∨ (1 ≤ c ∧ c ≤ 1048576 ∧ 0 ≤ q ∧ q ≤ 1099511627776 * c ∧ -(1048576 * c) ≤ s ∧ s ≤ 1048576 * c ∧ s * s ≤ c * q)
instance (c s q : Int) : Decidable (MayP c s q) := by unfold MayP; exact inferInstance
def InI (n : Int) : Prop := -9223372036854775808 ≤ n ∧ n ≤ 9223372036854775807
theorem bound_f {c s q : Int} (c0 : 0 ≤ c) (c1 : c ≤ 9223372036854775807) (q0 : 0 ≤ q) (q1 : q ≤ 9223372036854775807) : spread_bound.f c s q = some (wideD (c * q)) := by
  unfold spread_bound.f wideD
  rw [uwrap_id c0 (by omega), uwrap_id q0 (by omega), mul_f, Option.bind_some, mul64_eq (by omega) (by omega) (by omega) (by omega)]
theorem may_f (k : Nat) (hk : 10 ≤ k) {c s q : Int} (hc : InI c) (hs : InI s) (hq : InI q) : spread_May.f k c s q = some (decide (MayP c s q)) := by
  unfold InI at hc hs hq
  obtain ⟨k, rfl⟩ : ∃ m, k = m + 5 := ⟨k - 5, by omega⟩
  unfold spread_May.f spread_none.f
  rw [Option.bind_some]
  by_cases h0 : c = 0 ∧ s = 0 ∧ q = 0
  · obtain ⟨rfl, rfl, rfl⟩ := h0
    rw [if_pos (by decide), decide_eq_true (show MayP 0 0 0 from .inl ⟨rfl, rfl, rfl⟩)]
  · rw [if_neg (by simpa using h0)]
    have jt : ∀ m, spread_May.j0 (m + 1) true c s q = some false := fun m => by rw [spread_May.j0, if_pos rfl]
    by_cases h1 : c < 1
    · rw [if_pos h1, jt, decide_eq_false]
      rintro (h | h)
      · exact h0 h
      · omega
    · rw [if_neg h1]
      by_cases h2 : c > 1048576
      · rw [if_pos h2, jt, decide_eq_false]
        rintro (h | h)
        · exact h0 h
        · omega
      · rw [if_neg h2]
        by_cases h3 : q < 0
        · rw [if_pos h3, jt, decide_eq_false]
          rintro (h | h)
          · exact h0 h
          · omega
        · rw [if_neg h3, wrap64_id (n := 1099511627776 * c) (by omega) (by omega)]
          by_cases h4 : q > 1099511627776 * c
          · rw [decide_eq_true h4, jt, decide_eq_false]
            rintro (h | h)
            · exact h0 h
            · omega
          · rw [decide_eq_false h4, spread_May.j0, if_neg (by decide), wrap64_id (n := 1048576 * c) (by omega) (by omega), wrap64_id (n := -1048576 * c) (by omega) (by omega)]
            have jt2 : ∀ m, spread_May.j1 (m + 1) true c s q = some false := fun m => by rw [spread_May.j1, if_pos rfl]
            by_cases h5 : s > 1048576 * c
            · rw [if_pos h5, jt2, decide_eq_false]
              rintro (h | h)
              · exact h0 h
              · omega
            · rw [if_neg h5]
              by_cases h6 : s < -1048576 * c
              · rw [decide_eq_true h6, jt2, decide_eq_false]
                rintro (h | h)
                · exact h0 h
                · omega
              · rw [decide_eq_false h6, spread_May.j1, if_neg (by decide), square_f hs.1 hs.2, Option.bind_some, bound_f (by omega) (by omega) (by omega) (by omega), Option.bind_some]
                unfold wideD
                rw [cmp_f _ (by omega), Option.bind_some]
                congr 1
                rw [decide_eq_decide]
                unfold cmpI MayP
                constructor
                · intro h
                  refine .inr ⟨by omega, by omega, by omega, by omega, by omega, by omega, ?_⟩
                  by_cases h7 : s * s < c * q
                  · omega
                  · rw [if_neg h7] at h
                    by_cases h8 : c * q < s * s
                    · rw [if_pos h8] at h; omega
                    · omega
                · rintro (h | ⟨_, _, _, _, _, _, h⟩)
                  · exact absurd h h0
                  · split
                    · omega
                    · rw [if_neg (by omega)]; omega
theorem there_f (k : Nat) (hk : 10 ≤ k) {c s q : Int} (hc : InI c) (hs : InI s) (hq : InI q) : spread_there.f k c s q = some (decide (0 < c ∧ MayP c s q)) := by
  unfold spread_there.f
  by_cases h : c > 0
  · rw [if_pos h, may_f k hk hc hs hq, Option.bind_some]
    congr 1
    rw [decide_eq_decide]
    exact ⟨fun h1 => ⟨h, h1⟩, fun h1 => h1.2⟩
  · rw [if_neg h, decide_eq_false (fun h1 => h h1.1)]
theorem alone_f (k : Nat) (hk : 10 ≤ k) {c s q : Int} (hc : InI c) (hs : InI s) (hq : InI q) : spread_Alone.f k c s q = some (if 0 < c ∧ MayP c s q then ((wideD (s * s)).1, (wideD (s * s)).2, c) else (0, 0, 0)) := by
  unfold spread_Alone.f
  rw [there_f k hk hc hs hq, Option.bind_some]
  by_cases h : 0 < c ∧ MayP c s q
  · unfold InI at hc hs
    rw [decide_eq_true h, if_pos rfl, if_pos h, square_f hs.1 hs.2, Option.bind_some, uwrap_id (by omega) (by omega)]
  · rw [decide_eq_false h, if_neg (by decide), if_neg h]
theorem add64_f {a b c : Int} (a0 : 0 ≤ a) (b0 : 0 ≤ b) (c0 : 0 ≤ c) (c1 : c ≤ 1) : bits_Add64.f a b c = some ((a + b + c) % 18446744073709551616, (a + b + c) / 18446744073709551616) := by
  unfold bits_Add64.f
  rw [if_pos ⟨a0, b0, c0, c1⟩]
theorem times_f {h l n : Int} (h0 : 0 ≤ h) (h1 : h < 18446744073709551616) (l0 : 0 ≤ l) (l1 : l < 18446744073709551616) (n0 : 0 ≤ n) (n1 : n < 18446744073709551616) :
    prod_Times.f h l n = some (longD ((h * 18446744073709551616 + l) * n)) := by
  unfold prod_Times.f
  rw [show bits_Mul64.f l n = some (mul64 l n) from rfl, show bits_Mul64.f h n = some (mul64 h n) from rfl, Option.bind_some, Option.bind_some, mul64_eq l0 l1 n0 n1, mul64_eq h0 h1 n0 n1]
  have p1 := mul_bound64 l0 l1 n0 n1
  have p2 := mul_bound64 h0 h1 n0 n1
  have e : (h * 18446744073709551616 + l) * n = (h * n) * 18446744073709551616 + l * n := by rw [Int.add_mul, Int.mul_right_comm]
  rw [e]
  unfold longD
  generalize h * n = q at *
  generalize l * n = p at *
  rw [add64_f (by omega) (by omega) (by omega) (by omega), Option.bind_some, uwrap_id (by omega) (by omega)]
  simp only [Option.some.injEq, Prod.mk.injEq]
  omega
theorem add_f {a b c d : Int} (a0 : 0 ≤ a) (a1 : a < 18446744073709551616) (b0 : 0 ≤ b) (b1 : b < 18446744073709551616) (c0 : 0 ≤ c) (c1 : c < 18446744073709551616) (d0 : 0 ≤ d) (d1 : d < 18446744073709551616) :
    prod_Add.f a b c d = some (wideSum (a * 18446744073709551616 + b + (c * 18446744073709551616 + d))) := by
  unfold prod_Add.f
  rw [add64_f b0 d0 (by omega) (by omega), Option.bind_some, add64_f a0 c0 (by omega) (by omega), Option.bind_some]
  unfold wideSum
  have e1 : (b + d + 0) / 18446744073709551616 = (b + d) / 18446744073709551616 := by rw [Int.add_zero]
  have e2 : (a * 18446744073709551616 + b + (c * 18446744073709551616 + d)) / 18446744073709551616 = a + c + (b + d) / 18446744073709551616 := by omega
  have e3 : (a * 18446744073709551616 + b + (c * 18446744073709551616 + d)) % 18446744073709551616 = (b + d) % 18446744073709551616 := by omega
  rw [e1, e2, e3, Int.add_zero]
  by_cases h : (a + c + (b + d) / 18446744073709551616) / 18446744073709551616 = 0
  · rw [if_pos h, if_pos (by omega), Int.emod_eq_of_lt (a := a + c + (b + d) / 18446744073709551616) (by omega) (by omega)]
  · rw [if_neg h, if_neg (by omega)]
theorem there_bound {c s q : Int} (h : 0 < c ∧ MayP c s q) : c ≤ 1048576 ∧ 0 ≤ s * s ∧ s * s ≤ 1208925819614629174706176 := by
  obtain ⟨h0, h | h⟩ := h
  · omega
  · have e : s * s = (s.natAbs : Int) * s.natAbs := (Int.natAbs_mul_self' s).symm
    have := Int.mul_le_mul (a := (s.natAbs : Int)) (b := (s.natAbs : Int)) (c := 1099511627776) (d := 1099511627776) (by omega) (by omega) (by omega) (by omega)
    have := sq_nonneg' s
    omega
theorem sside_f {c s q c2 s2 q2 : Int} (hs : InI s) (h : 0 < c ∧ MayP c s q) (h2 : 0 < c2 ∧ MayP c2 s2 q2) : spread_side.f c s q c2 s2 q2 = some (wideD (s * s * c2)) := by
  have b := there_bound h; have b2 := there_bound h2
  have hb : 0 ≤ s * s * c2 ∧ s * s * c2 ≤ 1208925819614629174706176 * 1048576 := ⟨Int.mul_nonneg b.2.1 (by omega), Int.mul_le_mul b.2.2 b2.1 (by omega) (by omega)⟩
  unfold spread_side.f
  rw [square_f hs.1 hs.2, Option.bind_some, uwrap_id (by omega) (by omega)]
  unfold wideD
  rw [times_f (h := s * s / 18446744073709551616) (l := s * s % 18446744073709551616) (n := c2) (by omega) (by omega) (by omega) (by omega) (by omega) (by omega), Option.bind_some]
  have e : s * s / 18446744073709551616 * 18446744073709551616 + s * s % 18446744073709551616 = s * s := by omega
  rw [e]
  unfold longD
  rw [Int.emod_eq_of_lt (a := s * s * c2 / 18446744073709551616) (by omega) (by omega)]
theorem score_f (k : Nat) (hk : 12 ≤ k) {c s q c2 s2 q2 : Int} (hc : InI c) (hs : InI s) (hq : InI q) (hc2 : InI c2) (hs2 : InI s2) (hq2 : InI q2) :
    spread_Score.f k c s q c2 s2 q2 = some (if (0 < c ∧ MayP c s q) ∧ (0 < c2 ∧ MayP c2 s2 q2) then ((wideD (s * s * c2 + s2 * s2 * c)).1, (wideD (s * s * c2 + s2 * s2 * c)).2, c * c2) else (0, 0, 0)) := by
  obtain ⟨k, rfl⟩ : ∃ m, k = m + 1 := ⟨k - 1, by omega⟩
  have jt : spread_Score.j0 (k + 1) true c s q c2 s2 q2 = some (0, 0, 0) := by rw [spread_Score.j0, if_pos rfl]
  unfold spread_Score.f
  rw [there_f _ (by omega) hc hs hq, Option.bind_some]
  by_cases h : 0 < c ∧ MayP c s q
  · rw [decide_eq_true h, if_pos rfl, there_f _ (by omega) hc2 hs2 hq2, Option.bind_some]
    by_cases h2 : 0 < c2 ∧ MayP c2 s2 q2
    · have b := there_bound h; have b2 := there_bound h2
      have hb : 0 ≤ s * s * c2 ∧ s * s * c2 ≤ 1208925819614629174706176 * 1048576 := ⟨Int.mul_nonneg b.2.1 (by omega), Int.mul_le_mul b.2.2 b2.1 (by omega) (by omega)⟩
      have hb2 : 0 ≤ s2 * s2 * c ∧ s2 * s2 * c ≤ 1208925819614629174706176 * 1048576 := ⟨Int.mul_nonneg b2.2.1 (by omega), Int.mul_le_mul b2.2.2 b.1 (by omega) (by omega)⟩
      have hcc : 0 ≤ c * c2 ∧ c * c2 ≤ 1048576 * 1048576 := ⟨Int.mul_nonneg (by omega) (by omega), Int.mul_le_mul b.1 b2.1 (by omega) (by omega)⟩
      rw [decide_eq_true h2, Bool.not_true, spread_Score.j0, if_neg (by decide), if_pos (show (0 < c ∧ MayP c s q) ∧ (0 < c2 ∧ MayP c2 s2 q2) from ⟨h, h2⟩), sside_f hs h h2, Option.bind_some, sside_f hs2 h2 h, Option.bind_some]
      unfold wideD
      rw [add_f (a := s * s * c2 / 18446744073709551616) (b := s * s * c2 % 18446744073709551616) (c := s2 * s2 * c / 18446744073709551616) (d := s2 * s2 * c % 18446744073709551616) (by omega) (by omega) (by omega) (by omega) (by omega) (by omega) (by omega) (by omega), Option.bind_some]
      have e : s * s * c2 / 18446744073709551616 * 18446744073709551616 + s * s * c2 % 18446744073709551616 + (s2 * s2 * c / 18446744073709551616 * 18446744073709551616 + s2 * s2 * c % 18446744073709551616) = s * s * c2 + s2 * s2 * c := by omega
      rw [e]
      unfold wideSum
      rw [if_pos (by omega), uwrap_id (n := c) (by omega) (by omega), uwrap_id (n := c2) (by omega) (by omega), uwrap_id (n := c * c2) (by omega) (by omega)]
    · rw [decide_eq_false h2, Bool.not_false, jt, if_neg (show ¬ ((0 < c ∧ MayP c s q) ∧ (0 < c2 ∧ MayP c2 s2 q2)) from fun h3 => h2 h3.2)]
  · rw [decide_eq_false h, if_neg (by decide), jt, if_neg (show ¬ ((0 < c ∧ MayP c s q) ∧ (0 < c2 ∧ MayP c2 s2 q2)) from fun h3 => h h3.1)]
end Sp
namespace Fr
theorem add64_f {a b c : Int} (a0 : 0 ≤ a) (b0 : 0 ≤ b) (c0 : 0 ≤ c) (c1 : c ≤ 1) : bits_Add64.f a b c = some ((a + b + c) % 18446744073709551616, (a + b + c) / 18446744073709551616) := by
  unfold bits_Add64.f
  rw [if_pos ⟨a0, b0, c0, c1⟩]
theorem times_f {h l n : Int} (h0 : 0 ≤ h) (h1 : h < 18446744073709551616) (l0 : 0 ≤ l) (l1 : l < 18446744073709551616) (n0 : 0 ≤ n) (n1 : n < 18446744073709551616) :
    prod_Times.f h l n = some (longD ((h * 18446744073709551616 + l) * n)) := by
  unfold prod_Times.f
  rw [show bits_Mul64.f l n = some (mul64 l n) from rfl, show bits_Mul64.f h n = some (mul64 h n) from rfl, Option.bind_some, Option.bind_some, mul64_eq l0 l1 n0 n1, mul64_eq h0 h1 n0 n1]
  have p1 := mul_bound64 l0 l1 n0 n1
  have p2 := mul_bound64 h0 h1 n0 n1
  have e : (h * 18446744073709551616 + l) * n = (h * n) * 18446744073709551616 + l * n := by rw [Int.add_mul, Int.mul_right_comm]
  rw [e]
  unfold longD
  generalize h * n = q at *
  generalize l * n = p at *
  rw [add64_f (by omega) (by omega) (by omega) (by omega), Option.bind_some, uwrap_id (by omega) (by omega)]
  simp only [Option.some.injEq, Prod.mk.injEq]
  omega
theorem compare_f (a b : Int) : cmp_Compare_uint64.f a b = some (cmpI a b) := by
  unfold cmp_Compare_uint64.f cmp_isNaN_uint64.f cmpI
  rw [Option.bind_some, Option.bind_some, if_neg (by simp), if_neg (by simp)]
  split
  · rfl
  · split <;> rfl
theorem cmplong_f {X Y : Int} (_x0 : 0 ≤ X) (_y0 : 0 ≤ Y) : prod_CmpLong.f (longD X).1 (longD X).2.1 (longD X).2.2 (longD Y).1 (longD Y).2.1 (longD Y).2.2 = some (cmpI X Y) := by
  unfold prod_CmpLong.f longD
  simp only [compare_f]
  unfold cmpI
  have hx := Int.mul_ediv_add_emod X 18446744073709551616
  have hy := Int.mul_ediv_add_emod Y 18446744073709551616
  have hx2 := Int.mul_ediv_add_emod (X / 18446744073709551616) 18446744073709551616
  have hy2 := Int.mul_ediv_add_emod (Y / 18446744073709551616) 18446744073709551616
  have b1 := Int.emod_nonneg X (b := 18446744073709551616) (by decide)
  have b2 := Int.emod_lt_of_pos X (b := 18446744073709551616) (by decide)
  have b3 := Int.emod_nonneg Y (b := 18446744073709551616) (by decide)
  have b4 := Int.emod_lt_of_pos Y (b := 18446744073709551616) (by decide)
  have b5 := Int.emod_nonneg (X / 18446744073709551616) (b := 18446744073709551616) (by decide)
  have b6 := Int.emod_lt_of_pos (X / 18446744073709551616) (b := 18446744073709551616) (by decide)
  have b7 := Int.emod_nonneg (Y / 18446744073709551616) (b := 18446744073709551616) (by decide)
  have b8 := Int.emod_lt_of_pos (Y / 18446744073709551616) (b := 18446744073709551616) (by decide)
  generalize X % 18446744073709551616 = u0 at *
  generalize Y % 18446744073709551616 = v0 at *
  generalize X / 18446744073709551616 % 18446744073709551616 = u1 at *
  generalize Y / 18446744073709551616 % 18446744073709551616 = v1 at *
  generalize X / 18446744073709551616 / 18446744073709551616 = u2 at *
  generalize Y / 18446744073709551616 / 18446744073709551616 = v2 at *
  generalize X / 18446744073709551616 = p at *
  generalize Y / 18446744073709551616 = q at *
  by_cases h2 : u2 = v2
  · rw [if_pos h2]
    by_cases h1 : u1 = v1
    · rw [if_pos h1]
      by_cases h0 : u0 = v0
      · rw [if_pos h0, if_neg (by omega), if_neg (by omega)]
      · rw [if_neg h0]
        rcases Int.lt_or_gt_of_ne h0 with h | h
        · rw [if_pos h, if_pos (by omega)]
        · rw [if_neg (by omega), if_pos h, if_neg (by omega), if_pos (by omega)]
    · rw [if_neg h1]
      rcases Int.lt_or_gt_of_ne h1 with h | h
      · rw [if_pos h, if_pos (by omega)]
      · rw [if_neg (by omega), if_pos h, if_neg (by omega), if_pos (by omega)]
  · rw [if_neg h2]
    rcases Int.lt_or_gt_of_ne h2 with h | h
    · rw [if_pos h, if_pos (by omega)]
    · rw [if_neg (by omega), if_pos h, if_neg (by omega), if_pos (by omega)]
/-- How two fractions stand to one another: their upper numbers n, m, their lower ones d, e. -/
def FC (n d m e : Int) : Int := if d = 0 then (if e = 0 then 0 else -1) else if e = 0 then 1 else cmpI (n * e) (m * d)
theorem cmpI_cases (x y : Int) : (cmpI x y = -1 ∧ x < y) ∨ (cmpI x y = 0 ∧ x = y) ∨ (cmpI x y = 1 ∧ y < x) := by
  unfold cmpI
  by_cases h : x < y
  · rw [if_pos h]; exact .inl ⟨rfl, h⟩
  · rw [if_neg h]
    by_cases h2 : y < x
    · rw [if_pos h2]; exact .inr (.inr ⟨rfl, h2⟩)
    · rw [if_neg h2]; exact .inr (.inl ⟨rfl, by omega⟩)
theorem cmpI_anti (x y : Int) : cmpI y x = -cmpI x y := by
  rcases cmpI_cases x y with ⟨h, g⟩ | ⟨h, g⟩ | ⟨h, g⟩ <;> rcases cmpI_cases y x with ⟨h2, g2⟩ | ⟨h2, g2⟩ | ⟨h2, g2⟩ <;> omega
theorem FC_anti (n d m e : Int) : FC m e n d = -FC n d m e := by
  unfold FC
  by_cases hd : d = 0
  · by_cases he : e = 0
    · rw [if_pos hd, if_pos he, if_pos he, if_pos hd]; rfl
    · rw [if_neg he, if_pos hd, if_pos hd, if_neg he]; rfl
  · by_cases he : e = 0
    · rw [if_pos he, if_neg hd, if_neg hd, if_pos he]
    · rw [if_neg he, if_neg hd, if_neg hd, if_neg he, cmpI_anti]
theorem FC_refl (n d : Int) : FC n d n d = 0 := by
  have := FC_anti n d n d
  omega
theorem FC_le (n d m e : Int) (_d0 : 0 ≤ d) (e0 : 0 ≤ e) : FC n d m e ≤ 0 ↔ (d = 0 ∨ (e ≠ 0 ∧ n * e ≤ m * d)) := by
  unfold FC
  by_cases hd : d = 0
  · rw [if_pos hd]
    exact ⟨fun _ => .inl hd, fun _ => by split <;> omega⟩
  · rw [if_neg hd]
    by_cases he : e = 0
    · rw [if_pos he]
      exact ⟨fun h => absurd h (by omega), fun h => by rcases h with h | h <;> omega⟩
    · rw [if_neg he]
      rcases cmpI_cases (n * e) (m * d) with ⟨h, g⟩ | ⟨h, g⟩ | ⟨h, g⟩ <;> rw [h]
      · exact ⟨fun _ => .inr ⟨he, by omega⟩, fun _ => by omega⟩
      · exact ⟨fun _ => .inr ⟨he, by omega⟩, fun _ => by omega⟩
      · exact ⟨fun h => absurd h (by omega), fun h => by rcases h with h | h <;> omega⟩
theorem FC_chain (n d m e p f : Int) (d0 : 0 ≤ d) (e0 : 0 ≤ e) (f0 : 0 ≤ f) (h1 : FC n d m e ≤ 0) (h2 : FC m e p f ≤ 0) : FC n d p f ≤ 0 := by
  rw [FC_le _ _ _ _ d0 e0] at h1
  rw [FC_le _ _ _ _ e0 f0] at h2
  rw [FC_le _ _ _ _ d0 f0]
  rcases h1 with h1 | ⟨h1, g1⟩
  · exact .inl h1
  · rcases h2 with h2 | ⟨h2, g2⟩
    · exact absurd h2 h1
    · refine .inr ⟨h2, ?_⟩
      have a1 : n * e * f ≤ m * d * f := Int.mul_le_mul_of_nonneg_right g1 f0
      have a2 : m * f * d ≤ p * e * d := Int.mul_le_mul_of_nonneg_right g2 d0
      have a3 : m * d * f = m * f * d := by rw [Int.mul_assoc, Int.mul_comm d f, ← Int.mul_assoc]
      have a4 : n * e * f = e * (n * f) := by rw [Int.mul_comm n e, Int.mul_assoc]
      have a5 : p * e * d = e * (p * d) := by rw [Int.mul_comm p e, Int.mul_assoc]
      exact Int.le_of_mul_le_mul_left (a := e) (by rw [← a4, ← a5]; omega) (by omega)
theorem compareI_f (a b : Int) : cmp_Compare_int.f a b = some (cmpI a b) := by
  unfold cmp_Compare_int.f cmp_isNaN_int.f cmpI
  rw [Option.bind_some, Option.bind_some, if_neg (by simp), if_neg (by simp)]
  split
  · rfl
  · split <;> rfl
theorem right_f (h l d : Int) : frac_Right.f h l d = some (d != 0) := rfl
theorem rank_f (b : Bool) : frac_rank.f b = some (if b = true then 1 else 0) := by unfold frac_rank.f; split <;> rfl
theorem fcmp_j (k : Nat) {h l d h2 l2 d2 : Int} (h0 : 0 ≤ h) (h1 : h < 18446744073709551616) (l0 : 0 ≤ l) (l1 : l < 18446744073709551616) (e0 : 0 ≤ d) (e1 : d < 18446744073709551616)
    (g0 : 0 ≤ h2) (g1 : h2 < 18446744073709551616) (m0 : 0 ≤ l2) (m1 : l2 < 18446744073709551616) (f0 : 0 ≤ d2) (f1 : d2 < 18446744073709551616) (hd : d ≠ 0) (he : d2 ≠ 0) :
    frac_Cmp.j0 (k + 1) false h l d h2 l2 d2 = some (FC (h * 18446744073709551616 + l) d (h2 * 18446744073709551616 + l2) d2) := by
  rw [frac_Cmp.j0, if_neg (by decide), times_f h0 h1 l0 l1 f0 f1, Option.bind_some, times_f g0 g1 m0 m1 e0 e1, Option.bind_some, cmplong_f (Int.mul_nonneg (by omega) f0) (Int.mul_nonneg (by omega) e0), Option.bind_some]
  unfold FC
  rw [if_neg hd, if_neg he]
theorem fcmp_f (k : Nat) (hk : 1 ≤ k) {h l d h2 l2 d2 : Int} (h0 : 0 ≤ h) (h1 : h < 18446744073709551616) (l0 : 0 ≤ l) (l1 : l < 18446744073709551616) (e0 : 0 ≤ d) (e1 : d < 18446744073709551616)
    (g0 : 0 ≤ h2) (g1 : h2 < 18446744073709551616) (m0 : 0 ≤ l2) (m1 : l2 < 18446744073709551616) (f0 : 0 ≤ d2) (f1 : d2 < 18446744073709551616) :
    frac_Cmp.f k h l d h2 l2 d2 = some (FC (h * 18446744073709551616 + l) d (h2 * 18446744073709551616 + l2) d2) := by
  obtain ⟨k, rfl⟩ : ∃ q, k = q + 1 := ⟨k - 1, by omega⟩
  unfold frac_Cmp.f
  rw [right_f, Option.bind_some]
  by_cases hd : d = 0
  · rw [hd, if_neg (by decide), frac_Cmp.j0, if_pos rfl, right_f, Option.bind_some, rank_f, Option.bind_some, right_f, Option.bind_some, rank_f, Option.bind_some, compareI_f, Option.bind_some]
    unfold FC
    rw [if_pos rfl]
    by_cases he : d2 = 0
    · rw [if_pos he, he]; rfl
    · rw [if_neg he, show (d2 != 0) = true from bne_iff_ne.2 he]; rfl
  · rw [show (d != 0) = true from bne_iff_ne.2 hd, if_pos rfl, right_f, Option.bind_some]
    by_cases he : d2 = 0
    · rw [he, show (!((0 : Int) != 0)) = true from rfl, frac_Cmp.j0, if_pos rfl, right_f, Option.bind_some, rank_f, Option.bind_some, right_f, Option.bind_some, rank_f, Option.bind_some, compareI_f, Option.bind_some]
      unfold FC
      rw [if_neg hd, if_pos rfl, show (d != 0) = true from bne_iff_ne.2 hd]; rfl
    · rw [show (!(d2 != 0)) = false by rw [show (d2 != 0) = true from bne_iff_ne.2 he]; rfl]
      exact fcmp_j k h0 h1 l0 l1 e0 e1 g0 g1 m0 m1 f0 f1 hd he
end Fr
namespace Rf
open Go.Proofs.Ytancajnbjmcamaa.Dig
theorem digits_f {n : Int} (h0 : 0 ≤ n) (h1 : n < 18446744073709551616) : hornbeamref04_Digits.f n = some (dig4 n) := by
  unfold hornbeamref04_Digits.f dig4
  rw [Int.tmod_eq_emod_of_nonneg h0, Int.tdiv_eq_ediv_of_nonneg h0, Int.tdiv_eq_ediv_of_nonneg h0, Int.tdiv_eq_ediv_of_nonneg h0, uwrap_id (by omega) (by omega), uwrap_id (by omega) (by omega), uwrap_id (by omega) (by omega),
    Int.tmod_eq_emod_of_nonneg (by omega), Int.tmod_eq_emod_of_nonneg (by omega)]
theorem ofwide_f {h l : Int} (h0 : 0 ≤ h) (h1 : h < 18446744073709551616) (l0 : 0 ≤ l) (l1 : l < 18446744073709551616) : ∃ r, hornbeamref04_OfWide.f h l = some r ∧ r.length = 8 ∧ Dg r ∧ V r = h * 18446744073709551616 + l := by
  refine ⟨dig4 l ++ dig4 h, ?_, rfl, (dig4_Dg l0 l1).append (dig4_Dg h0 h1), ?_⟩
  · unfold hornbeamref04_OfWide.f
    rw [digits_f l0 l1, Option.bind_some, digits_f h0 h1, Option.bind_some, if_pos (by rw [dig4_len, dig4_len]; omega)]
  · rw [V_append, dig4_V, dig4_V, dig4_len, show (65536 : Int) ^ 4 = 18446744073709551616 from rfl]; omega
theorem rd_nat (l : List Int) (i : Nat) : rd l (i : Int) = l.getD i 0 := rfl
theorem number_f {l : List Int} (hl : l.length = 4) (hd : Dg l) : hornbeamref04_number.f l = some (V l) := by
  obtain ⟨a, b, c, d, rfl⟩ := len4 hl
  have ha := hd.head; have hb := hd.tail.head; have hc := hd.tail.tail.head; have hdd := hd.tail.tail.tail.head
  unfold hornbeamref04_number.f
  simp only [List.length_cons, List.length_nil]
  rw [if_pos (by decide), if_pos (by decide), if_pos (by decide), if_pos (by decide)]
  simp only [rd, List.getD_cons_zero, List.getD_cons_succ, show (0 : Int).toNat = 0 from rfl, show (1 : Int).toNat = 1 from rfl, show (2 : Int).toNat = 2 from rfl, show (3 : Int).toNat = 3 from rfl, V]
  rw [uwrap_id (n := b * 65536) (by omega) (by omega), uwrap_id (n := c * 4294967296) (by omega) (by omega), uwrap_id (n := d * 281474976710656) (by omega) (by omega),
    uwrap_id (n := a + b * 65536) (by omega) (by omega), uwrap_id (n := a + b * 65536 + c * 4294967296) (by omega) (by omega), uwrap_id (by omega) (by omega)]
  congr 1; omega
theorem product_l1 (a b : List Int) (ha : Dg a) (hb : Dg b) (la : a.length ≤ 100) (lb : b.length ≤ 100) (i : Nat) (hi : i < a.length) (d : Nat) :
    ∀ (j : Nat) (o : List Int) (c : Int), j + d = b.length → o.length = a.length + b.length → Dg o → 0 ≤ c → c < 65536 → (∀ m, i + b.length ≤ m → o.getD m 0 = 0) →
    ∃ r, (∀ k, hornbeamref04_Product.l1 (k + (d + 1)) a b o (i : Int) c (j : Int) = hornbeamref04_Product.l0 k a b r ((i + 1 : Nat) : Int)) ∧ r.length = a.length + b.length ∧ Dg r ∧
      V r = V o + (a.getD i 0 * V (b.drop j)) * 65536 ^ (i + j) + c * 65536 ^ (i + j) ∧ (∀ m, i + 1 + b.length ≤ m → r.getD m 0 = 0) := by
  induction d with
  | zero =>
    intro j o c hj ho hd c0 c1 hz
    have hjb : j = b.length := by omega
    subst hjb
    refine ⟨o.set (i + b.length) c, ?_, by rw [List.length_set]; exact ho, hd.set _ c0 c1, ?_, ?_⟩
    · intro k
      rw [hornbeamref04_Product.l1, if_neg (by omega), show wrap64 ((i : Int) + (b.length : Int)) = ((i + b.length : Nat) : Int) by unfold wrap64; omega, if_pos (by omega), if_pos (by omega),
        show wrap64 ((i : Int) + 1) = ((i + 1 : Nat) : Int) by unfold wrap64; omega]
      rfl
    · rw [V_set _ _ (by omega), hz _ (Nat.le_refl _), List.drop_length, V, Int.mul_zero, Int.zero_mul, Int.add_zero, Int.sub_zero]
    · intro m hm
      rw [digs_set_ne _ (by omega)]
      exact hz m (by omega)
  | succ d ih =>
    intro j o c hj ho hd c0 c1 hz
    have hA := ha.getD i; have hB := hb.getD j; have hO := hd.getD (i + j)
    have hP := mul_bound16 hA.1 hA.2 hB.1 hB.2
    obtain ⟨n, hn⟩ : ∃ n, n = o.getD (i + j) 0 + a.getD i 0 * b.getD j 0 + c := ⟨_, rfl⟩
    have n0 : 0 ≤ n := by omega
    have n1 : n < 4294967296 := by omega
    obtain ⟨r, hr, r1, r2, r3, r4⟩ := ih (j + 1) (o.set (i + j) (n % 65536)) (n / 65536) (by omega) (by rw [List.length_set]; exact ho) (hd.set _ (by omega) (by omega)) (by omega) (by omega) (by
      intro m hm
      rw [digs_set_ne _ (by omega)]
      exact hz m hm)
    refine ⟨r, ?_, r1, r2, ?_, r4⟩
    · intro k
      rw [show k + (d + 1 + 1) = k + (d + 1) + 1 by omega, hornbeamref04_Product.l1, if_pos (by omega), show wrap64 ((i : Int) + (j : Int)) = ((i + j : Nat) : Int) by unfold wrap64; omega, if_pos (by omega), if_pos (by omega), if_pos (by omega), if_pos (by omega), if_pos (by omega)]
      rw [rd_nat, rd_nat, rd_nat, uwrap_id (n := a.getD i 0 * b.getD j 0) (by omega) (by omega), uwrap_id (n := o.getD (i + j) 0 + a.getD i 0 * b.getD j 0) (by omega) (by omega), ← hn, uwrap_id (n := n) (by omega) (by omega),
        Int.tmod_eq_emod_of_nonneg n0, Int.tdiv_eq_ediv_of_nonneg n0, uwrap_id (by omega) (by omega), show wrap64 ((j : Int) + 1) = ((j + 1 : Nat) : Int) by unfold wrap64; omega]
      exact hr k
    · rw [r3, V_set _ _ (by omega), V_drop j (by omega), show i + (j + 1) = i + j + 1 by omega, Int.pow_succ]
      generalize (65536 : Int) ^ (i + j) = P at *
      generalize V (b.drop (j + 1)) = W at *
      have e1 : a.getD i 0 * (b.getD j 0 + 65536 * W) * P = a.getD i 0 * b.getD j 0 * P + a.getD i 0 * W * (P * 65536) := by
        rw [Int.mul_add, Int.add_mul, Int.mul_left_comm (a.getD i 0) 65536 W, Int.mul_comm 65536 (a.getD i 0 * W), Int.mul_assoc (a.getD i 0 * W), Int.mul_comm 65536 P]
      rw [e1]
      have e2 : a.getD i 0 * b.getD j 0 * P + c * P = (n - o.getD (i + j) 0) * P := by rw [← Int.add_mul]; congr 1; omega
      have e3 : (n % 65536 - o.getD (i + j) 0) * P + n / 65536 * (P * 65536) = (n - o.getD (i + j) 0) * P := by
        rw [Int.mul_comm P 65536, ← Int.mul_assoc, ← Int.add_mul]; congr 1; omega
      omega
theorem product_l0 (a b : List Int) (ha : Dg a) (hb : Dg b) (la : a.length ≤ 100) (lb : b.length ≤ 100) (d : Nat) :
    ∀ (i : Nat) (o : List Int), i + d = a.length → o.length = a.length + b.length → Dg o → (∀ m, i + b.length ≤ m → o.getD m 0 = 0) →
    ∃ r, (∀ k, hornbeamref04_Product.l0 (k + (d * (b.length + 2) + 1)) a b o (i : Int) = some r) ∧ r.length = a.length + b.length ∧ Dg r ∧ V r = V o + V (a.drop i) * V b * 65536 ^ i := by
  induction d with
  | zero =>
    intro i o hi ho hd hz
    refine ⟨o, ?_, ho, hd, ?_⟩
    · intro k
      rw [Nat.zero_mul, Nat.zero_add, hornbeamref04_Product.l0, if_neg (by omega)]
    · rw [List.drop_eq_nil_of_le (by omega), V, Int.zero_mul, Int.zero_mul, Int.add_zero]
  | succ d ih =>
    intro i o hi ho hd hz
    obtain ⟨o1, h1, h2, h3, h4, h5⟩ := product_l1 a b ha hb la lb i (by omega) b.length 0 o 0 (by omega) ho hd (by omega) (by omega) hz
    obtain ⟨r, g1, g2, g3, g4⟩ := ih (i + 1) o1 (by omega) h2 h3 h5
    refine ⟨r, ?_, g2, g3, ?_⟩
    · intro k
      rw [show k + ((d + 1) * (b.length + 2) + 1) = k + (d * (b.length + 2) + 1) + (b.length + 1) + 1 by rw [Nat.add_mul]; omega, hornbeamref04_Product.l0, if_pos (by omega)]
      exact (h1 _).trans (g1 k)
    · rw [g4, h4, V_drop i (by omega), List.drop_zero, Nat.add_zero, Int.zero_mul, Int.add_zero, Int.pow_succ]
      generalize (65536 : Int) ^ i = P at *
      generalize V (a.drop (i + 1)) = W at *
      generalize V b = Y at *
      rw [Int.add_mul, Int.add_mul, Int.mul_comm P 65536, ← Int.mul_assoc (W * Y), Int.mul_comm (W * Y) 65536, ← Int.mul_assoc 65536 W Y]
      omega
theorem product_f (a b : List Int) (ha : Dg a) (hb : Dg b) (la : a.length ≤ 100) (lb : b.length ≤ 100) :
    ∃ r, (∀ k, 10300 ≤ k → hornbeamref04_Product.f k a b = some r) ∧ r.length = a.length + b.length ∧ Dg r ∧ V r = V a * V b := by
  have e : wrap64 ((a.length : Int) + (b.length : Int)) = ((a.length + b.length : Nat) : Int) := by unfold wrap64; omega
  obtain ⟨r, h1, h2, h3, h4⟩ := product_l0 a b ha hb la lb a.length 0 (List.replicate (a.length + b.length) 0) (by omega) (List.length_replicate) (Dg.replicate _) (by
    intro m _
    by_cases h : m < a.length + b.length <;> simp [List.getD, h])
  refine ⟨r, ?_, h2, h3, ?_⟩
  · intro k hk
    have hm : a.length * (b.length + 2) ≤ 100 * 102 := Nat.mul_le_mul la (by omega)
    unfold hornbeamref04_Product.f
    rw [e, if_pos (by omega), Int.toNat_natCast, if_pos (by omega)]
    have := h1 (k - (a.length * (b.length + 2) + 1))
    rw [show k - (a.length * (b.length + 2) + 1) + (a.length * (b.length + 2) + 1) = k by omega] at this
    exact this
  · rw [h4, V_replicate, List.drop_zero, Int.pow_zero, Int.mul_one, Int.zero_add]
theorem rmul_f {a b : Int} (a0 : 0 ≤ a) (a1 : a < 18446744073709551616) (b0 : 0 ≤ b) (b1 : b < 18446744073709551616) (k : Nat) (hk : 10300 ≤ k) :
    hornbeamref04_Mul.f k a b = some (a * b / 18446744073709551616, a * b % 18446744073709551616) := by
  obtain ⟨r, h1, h2, h3, h4⟩ := product_f (dig4 a) (dig4 b) (dig4_Dg a0 a1) (dig4_Dg b0 b1) (by rw [dig4_len]; omega) (by rw [dig4_len]; omega)
  rw [dig4_len, dig4_len] at h2
  rw [dig4_V, dig4_V] at h4
  unfold hornbeamref04_Mul.f
  have t1 : (r.take 4).length = 4 := by rw [List.length_take]; omega
  have t2 : (r.drop 4).length = 4 := by rw [List.length_drop]; omega
  rw [digits_f a0 a1, Option.bind_some, digits_f b0 b1, Option.bind_some, h1 k hk, Option.bind_some, if_pos (by omega), number_f t2 (h3.drop 4), Option.bind_some, number_f t1 (h3.take 4), Option.bind_some]
  have e := V_take_drop r 4 (by omega)
  have u1 := V_lt (h3.take 4); have u2 := V_nonneg (h3.take 4)
  rw [t1] at u1
  rw [h4] at e
  rw [show (65536 : Int) ^ 4 = 18446744073709551616 from rfl] at e u1
  simp only [Option.some.injEq, Prod.mk.injEq]
  omega
theorem rsize_f {a : Int} (a0 : -9223372036854775808 ≤ a) (a1 : a ≤ 9223372036854775807) : hornbeamref04_Size.f a = some ((a.natAbs : Nat) : Int) := by
  unfold hornbeamref04_Size.f
  split
  · rw [uwrap_id (by omega) (by omega)]; congr 1; omega
  · rw [wrap64_id (n := a + 1) (by omega) (by omega), wrap64_id (by omega) (by omega), uwrap_id (n := -(a + 1)) (by omega) (by omega), uwrap_id (by omega) (by omega)]; congr 1; omega
theorem sum_l (a b : List Int) (ha : Dg a) (hb : Dg b) (hl : a.length = b.length) (la : a.length ≤ 100) (d : Nat) :
    ∀ (i : Nat) (o : List Int) (c : Int), i + d = a.length → o.length ≤ i → 0 ≤ c → c ≤ 1 →
    ∃ r, (∀ k, hornbeamref04_Sum.l0 (k + (d + 1)) a b o c (i : Int) = some (o ++ r)) ∧ r.length = d + 1 ∧ Dg r ∧ V r = V (a.drop i) + V (b.drop i) + c := by
  induction d with
  | zero =>
    intro i o c hi ho c0 c1
    refine ⟨[c], ?_, rfl, Dg.cons (by omega) (by omega) Dg.nil, ?_⟩
    · intro k
      rw [hornbeamref04_Sum.l0, if_neg (by omega), if_pos (by omega)]
    · rw [List.drop_eq_nil_of_le (by omega), List.drop_eq_nil_of_le (by omega)]; simp [V]
  | succ d ih =>
    intro i o c hi ho c0 c1
    have hA := ha.getD i; have hB := hb.getD i
    obtain ⟨n, hn⟩ : ∃ n, n = a.getD i 0 + b.getD i 0 + c := ⟨_, rfl⟩
    have n0 : 0 ≤ n := by omega
    have n1 : n < 131072 := by omega
    obtain ⟨r, h1, h2, h3, h4⟩ := ih (i + 1) (o ++ [n % 65536]) (n / 65536) (by omega) (by rw [List.length_append, List.length_singleton]; omega) (by omega) (by omega)
    refine ⟨n % 65536 :: r, ?_, by rw [List.length_cons, h2], Dg.cons (by omega) (by omega) h3, ?_⟩
    · intro k
      rw [show k + (d + 1 + 1) = k + (d + 1) + 1 by omega, hornbeamref04_Sum.l0, if_pos (by omega), if_pos (by omega), if_pos (by omega), if_pos (by omega), rd_nat, rd_nat,
        uwrap_id (n := a.getD i 0 + b.getD i 0) (by omega) (by omega), ← hn, uwrap_id (n := n) (by omega) (by omega), Int.tmod_eq_emod_of_nonneg n0, Int.tdiv_eq_ediv_of_nonneg n0, uwrap_id (by omega) (by omega),
        show wrap64 ((i : Int) + 1) = ((i + 1 : Nat) : Int) by unfold wrap64; omega]
      rw [h1 k, List.append_assoc]; rfl
    · rw [V, h4, V_drop i (by omega), V_drop (l := b) i (by omega)]
      generalize V (a.drop (i + 1)) = p at *
      generalize V (b.drop (i + 1)) = q at *
      omega
theorem sum_f (a b : List Int) (ha : Dg a) (hb : Dg b) (hl : a.length = b.length) (la : a.length ≤ 100) :
    ∃ r, (∀ k, 101 ≤ k → hornbeamref04_Sum.f k a b = some r) ∧ r.length = a.length + 1 ∧ Dg r ∧ V r = V a + V b := by
  obtain ⟨r, h1, h2, h3, h4⟩ := sum_l a b ha hb hl la a.length 0 [] 0 (by omega) (by simp) (by omega) (by omega)
  refine ⟨r, ?_, h2, h3, ?_⟩
  · intro k hk
    have := h1 (k - (a.length + 1))
    rw [show k - (a.length + 1) + (a.length + 1) = k by omega] at this
    exact this
  · rw [h4, List.drop_zero, List.drop_zero, Int.add_zero]
/-- A list of eight digits and more: its words. -/
theorem words8 {r : List Int} (hd : Dg r) (h : 8 ≤ r.length) : V r = V (r.take 4) + 18446744073709551616 * V ((r.take 8).drop 4) + 340282366920938463463374607431768211456 * V (r.drop 8) ∧
    0 ≤ V (r.take 4) ∧ V (r.take 4) < 18446744073709551616 ∧ 0 ≤ V ((r.take 8).drop 4) ∧ V ((r.take 8).drop 4) < 18446744073709551616 ∧ 0 ≤ V (r.drop 8) := by
  have e1 := V_take_drop r 8 h
  have e2 := V_take_drop (r.take 8) 4 (by rw [List.length_take]; omega)
  rw [List.take_take, Nat.min_eq_left (by omega)] at e2
  rw [show (65536 : Int) ^ 8 = 340282366920938463463374607431768211456 from rfl] at e1
  rw [show (65536 : Int) ^ 4 = 18446744073709551616 from rfl] at e2
  have l1 : (r.take 4).length = 4 := by rw [List.length_take]; omega
  have l2 : ((r.take 8).drop 4).length = 4 := by rw [List.length_drop, List.length_take]; omega
  have u1 := V_lt (hd.take 4); have u2 := V_nonneg (hd.take 4)
  have v1 := V_lt ((hd.take 8).drop 4); have v2 := V_nonneg ((hd.take 8).drop 4)
  have w2 := V_nonneg (hd.drop 8)
  rw [l1, show (65536 : Int) ^ 4 = 18446744073709551616 from rfl] at u1
  rw [l2, show (65536 : Int) ^ 4 = 18446744073709551616 from rfl] at v1
  exact ⟨by omega, u2, u1, v2, v1, w2⟩
theorem radd_f {a b c d : Int} (a0 : 0 ≤ a) (a1 : a < 18446744073709551616) (b0 : 0 ≤ b) (b1 : b < 18446744073709551616) (c0 : 0 ≤ c) (c1 : c < 18446744073709551616) (d0 : 0 ≤ d) (d1 : d < 18446744073709551616) (k : Nat) (hk : 101 ≤ k) :
    hornbeamref04_Add.f k a b c d = some (wideSum (a * 18446744073709551616 + b + (c * 18446744073709551616 + d))) := by
  obtain ⟨x, x1, x2, x3, x4⟩ := ofwide_f a0 a1 b0 b1
  obtain ⟨y, y1, y2, y3, y4⟩ := ofwide_f c0 c1 d0 d1
  obtain ⟨r, r1, r2, r3, r4⟩ := sum_f x y x3 y3 (by omega) (by omega)
  obtain ⟨e, t0, t1, u0, u1, v0⟩ := words8 r3 (by omega)
  have hv : V (r.drop 8) = r.getD 8 0 := by
    rw [V_drop 8 (by omega), List.drop_eq_nil_of_le (by omega)]; simp [V]
  unfold hornbeamref04_Add.f
  rw [x1, Option.bind_some, y1, Option.bind_some, r1 k hk, Option.bind_some, if_pos (by omega), show rd r 8 = r.getD 8 0 from rfl, ← hv]
  rw [x4, y4] at r4
  rw [r4] at e
  unfold wideSum
  by_cases h : V (r.drop 8) > 0
  · rw [if_pos h, if_neg (by omega)]
  · rw [if_neg h, if_pos (by decide), if_pos (by omega), number_f (by rw [List.length_drop, List.length_take]; omega) ((r3.take 8).drop 4), Option.bind_some, if_pos (by omega), number_f (by rw [List.length_take]; omega) (r3.take 4), Option.bind_some, if_pos (by omega)]
    simp only [Option.some.injEq, Prod.mk.injEq]
    exact ⟨by omega, by omega, trivial⟩
theorem rtimesw_f {h l n : Int} (h0 : 0 ≤ h) (h1 : h < 18446744073709551616) (l0 : 0 ≤ l) (l1 : l < 18446744073709551616) (n0 : 0 ≤ n) (n1 : n < 18446744073709551616) (k : Nat) (hk : 10300 ≤ k) :
    hornbeamref04_Times.f k h l n = some (longD ((h * 18446744073709551616 + l) * n)) := by
  obtain ⟨x, x1, x2, x3, x4⟩ := ofwide_f h0 h1 l0 l1
  obtain ⟨r, r1, r2, r3, r4⟩ := product_f x (dig4 n) x3 (dig4_Dg n0 n1) (by omega) (by rw [dig4_len]; omega)
  rw [dig4_V, x4] at r4
  rw [dig4_len] at r2
  obtain ⟨e, t0, t1, u0, u1, v0⟩ := words8 r3 (by omega)
  unfold hornbeamref04_Times.f
  rw [x1, Option.bind_some, digits_f n0 n1, Option.bind_some, r1 k hk, Option.bind_some, if_pos (by omega), number_f (by rw [List.length_drop]; omega) (r3.drop 8), Option.bind_some, if_pos (by decide), number_f (by rw [List.length_drop, List.length_take]; omega) ((r3.take 8).drop 4), Option.bind_some,
    if_pos (by omega), number_f (by rw [List.length_take]; omega) (r3.take 4), Option.bind_some]
  rw [r4] at e
  generalize (h * 18446744073709551616 + l) * n = X at *
  generalize V (r.take 4) = p at *
  generalize V ((r.take 8).drop 4) = q at *
  generalize V (r.drop 8) = s at *
  unfold longD
  have f1 : X / 18446744073709551616 = q + 18446744073709551616 * s := by omega
  rw [f1]
  simp only [Option.some.injEq, Prod.mk.injEq]
  exact ⟨by omega, by omega, by omega⟩
theorem rcompare_l (a b : List Int) (ha : Dg a) (hb : Dg b) (hl : a.length = b.length) (h100 : a.length ≤ 100) (m : Nat) : ∀ (k : Nat), m ≤ a.length → m < k →
    hornbeamref04_Compare.l0 k a b ((m : Int) - 1) = some (cmpI (V (a.take m)) (V (b.take m))) := by
  induction m with
  | zero =>
    intro k _ hk
    obtain ⟨k, rfl⟩ : ∃ q, k = q + 1 := ⟨k - 1, by omega⟩
    rw [hornbeamref04_Compare.l0, if_neg (by omega)]
    rfl
  | succ m ih =>
    intro k hm hk
    obtain ⟨k, rfl⟩ : ∃ q, k = q + 1 := ⟨k - 1, by omega⟩
    have tk : ∀ (l : List Int), m < l.length → V (l.take (m + 1)) = V (l.take m) + 65536 ^ m * l.getD m 0 := by
      intro l h
      rw [List.take_succ_eq_append_getElem h, V_append, List.length_take, Nat.min_eq_left (by omega)]
      simp [V, List.getD, h]
    have u1 := V_lt (ha.take m); have u2 := V_nonneg (ha.take m)
    have v1 := V_lt (hb.take m); have v2 := V_nonneg (hb.take m)
    rw [List.length_take, Nat.min_eq_left (by omega)] at u1 v1
    rw [hornbeamref04_Compare.l0, show (((m + 1 : Nat) : Int) - 1) = (m : Int) by omega, if_pos (by omega), if_pos (by omega), if_pos (by omega), if_pos (by omega), rd_nat, rd_nat, show wrap64 ((m : Int) - 1) = (m : Int) - 1 by unfold wrap64; omega,
      ih k (by omega) (by omega), tk a (by omega), tk b (by omega)]
    generalize (65536 : Int) ^ m = P at *
    generalize V (a.take m) = x at *
    generalize V (b.take m) = y at *
    generalize a.getD m 0 = p at *
    generalize b.getD m 0 = q at *
    have key : ∀ s t : Int, s < t → P * s + P ≤ P * t := by
      intro s t h
      have := Int.mul_le_mul_of_nonneg_left (a := s + 1) (b := t) (c := P) (by omega) (by omega)
      rw [Int.mul_add, Int.mul_one] at this
      exact this
    unfold cmpI
    by_cases h1 : p < q
    · have := key p q h1
      rw [if_pos h1, if_pos (by omega)]
    · rw [if_neg h1]
      by_cases h2 : p > q
      · have := key q p h2
        rw [if_pos h2, if_neg (by omega), if_pos (by omega)]
      · have e : p = q := by omega
        subst e
        rw [if_neg h2]
        congr 1
        by_cases h3 : x < y
        · rw [if_pos h3, if_pos (by omega)]
        · rw [if_neg h3, if_neg (show ¬ (x + P * p < y + P * p) by omega)]
          by_cases h4 : y < x
          · rw [if_pos h4, if_pos (by omega)]
          · rw [if_neg h4, if_neg (by omega)]
theorem rcompare_f (a b : List Int) (ha : Dg a) (hb : Dg b) (hl : a.length = b.length) (h100 : a.length ≤ 100) (k : Nat) (hk : 101 ≤ k) :
    hornbeamref04_Compare.f k a b = some (cmpI (V a) (V b)) := by
  have := rcompare_l a b ha hb hl h100 a.length k (Nat.le_refl _) (by omega)
  rw [List.take_length, hl, List.take_length] at this
  unfold hornbeamref04_Compare.f
  rw [show wrap64 ((a.length : Int) - 1) = (a.length : Int) - 1 by unfold wrap64; omega, hl]
  exact this
theorem rcmpw_f (k : Nat) (hk : 101 ≤ k) {h l h2 l2 : Int} (h0 : 0 ≤ h) (h1 : h < 18446744073709551616) (l0 : 0 ≤ l) (l1 : l < 18446744073709551616) (g0 : 0 ≤ h2) (g1 : h2 < 18446744073709551616) (m0 : 0 ≤ l2) (m1 : l2 < 18446744073709551616) :
    hornbeamref04_Cmp.f k h l h2 l2 = some (cmpI (h * 18446744073709551616 + l) (h2 * 18446744073709551616 + l2)) := by
  obtain ⟨a, a1, a2, a3, a4⟩ := ofwide_f h0 h1 l0 l1
  obtain ⟨b, b1, b2, b3, b4⟩ := ofwide_f g0 g1 m0 m1
  unfold hornbeamref04_Cmp.f
  rw [a1, Option.bind_some, b1, Option.bind_some, rcompare_f a b a3 b3 (by omega) (by omega) k hk, Option.bind_some, a4, b4]
def In (n : Int) : Prop := -9223372036854775808 ≤ n ∧ n ≤ 9223372036854775807
/-- A number of a sign and a size. -/
def sg (below : Bool) (n : Int) : Int := if below = true then -n else n
theorem whole_j (k : Nat) (below : Bool) {n : Int} (n0 : 0 < n) (n1 : n < 18446744073709551616) :
    (In (sg below n) → (if below = true then hornbeamref04_whole.j1 (k + 1) below n false else hornbeamref04_whole.j1 (k + 1) below n (decide (n ≤ 9223372036854775807))) = some (sg below n, 0)) ∧
    (¬ In (sg below n) → (if below = true then hornbeamref04_whole.j1 (k + 1) below n false else hornbeamref04_whole.j1 (k + 1) below n (decide (n ≤ 9223372036854775807))) = some (0, 6)) := by
  unfold In sg
  cases below with
  | true =>
    simp only [if_true, hornbeamref04_whole.j1, Bool.false_eq_true, if_false]
    constructor
    · intro h
      rw [if_pos (by omega), uwrap_id (by omega) (by omega), wrap64_id (n := n - 1) (by omega) (by omega), wrap64_id (n := -(n - 1)) (by omega) (by omega), wrap64_id (by omega) (by omega)]
      congr 2; omega
    · intro h
      rw [if_neg (by omega)]
  | false =>
    simp only [Bool.false_eq_true, if_false, hornbeamref04_whole.j1, decide_eq_true_eq]
    constructor
    · intro h
      rw [if_pos (by omega), wrap64_id (by omega) (by omega)]
    · intro h
      rw [if_neg (by omega)]
theorem whole_l (below : Bool) {l : List Int} (hd : Dg l) (h4 : 4 ≤ l.length) (h100 : l.length ≤ 100) (d : Nat) : ∀ (i : Nat), i + d = l.length → 4 ≤ i →
    ∀ k, (V (l.drop i) = 0 → hornbeamref04_whole.l0 (k + 1 + (d + 1)) below l (i : Int) = (if V (l.take 4) = 0 then some (0, 0) else (if below = true then hornbeamref04_whole.j1 (k + 1) below (V (l.take 4)) false else hornbeamref04_whole.j1 (k + 1) below (V (l.take 4)) (decide (V (l.take 4) ≤ 9223372036854775807))))) ∧
      (V (l.drop i) ≠ 0 → hornbeamref04_whole.l0 (k + 1 + (d + 1)) below l (i : Int) = some (0, 6)) := by
  induction d with
  | zero =>
    intro i hi h4i k
    rw [List.drop_eq_nil_of_le (by omega)]
    refine ⟨fun _ => ?_, fun h => absurd rfl h⟩
    rw [hornbeamref04_whole.l0, if_neg (by omega), if_pos (by omega), number_f (by rw [List.length_take]; omega) (hd.take 4), Option.bind_some]
  | succ d ih =>
    intro i hi h4i k
    have hO := hd.getD i
    have hV := V_nonneg (hd.drop (i + 1))
    rw [V_drop i (by omega), show k + 1 + (d + 1 + 1) = k + 1 + (d + 1) + 1 by omega, hornbeamref04_whole.l0, if_pos (by omega), if_pos (by omega), rd_nat, show wrap64 ((i : Int) + 1) = ((i + 1 : Nat) : Int) by unfold wrap64; omega]
    by_cases h0 : l.getD i 0 > 0
    · rw [if_pos h0]
      exact ⟨fun h => by omega, fun _ => rfl⟩
    · rw [if_neg h0]
      have := ih (i + 1) (by omega) (by omega) k
      exact ⟨fun h => this.1 (by omega), fun h => this.2 (by omega)⟩
theorem whole_f (below : Bool) {l : List Int} (hd : Dg l) (h4 : 4 ≤ l.length) (h100 : l.length ≤ 100) (k : Nat) (hk : 200 ≤ k) :
    (In (sg below (V l)) → hornbeamref04_whole.f k below l = some (sg below (V l), 0)) ∧ (¬ In (sg below (V l)) → hornbeamref04_whole.f k below l = some (0, 6)) := by
  have hw := whole_l below hd h4 h100 (l.length - 4) 4 (by omega) (by omega) (k - 2 - (l.length - 4))
  rw [show k - 2 - (l.length - 4) + 1 + (l.length - 4 + 1) = k by omega] at hw
  have e := V_take_drop l 4 h4
  have u1 := V_lt (hd.take 4); have u2 := V_nonneg (hd.take 4); have u3 := V_nonneg (hd.drop 4)
  rw [List.length_take, Nat.min_eq_left h4] at u1
  rw [show (65536 : Int) ^ 4 = 18446744073709551616 from rfl] at e u1
  unfold hornbeamref04_whole.f
  by_cases h0 : V (l.drop 4) = 0
  · have e2 : V l = V (l.take 4) := by rw [e, h0]; omega
    have hw1 : hornbeamref04_whole.l0 k below l 4 = _ := hw.1 h0
    rw [hw1, e2]
    clear e2 hw1 hw e h0 u3
    generalize V (l.take 4) = n at *
    by_cases hn : n = 0
    · subst hn
      have : sg below 0 = 0 := by unfold sg; split <;> rfl
      rw [if_pos rfl, this]
      exact ⟨fun _ => rfl, fun h => absurd (by unfold In; omega) h⟩
    · rw [if_neg hn]
      exact whole_j _ below (by omega) u1
  · have hw1 : hornbeamref04_whole.l0 k below l 4 = _ := hw.2 h0
    rw [hw1]
    refine ⟨fun h => ?_, fun _ => rfl⟩
    exfalso
    unfold In sg at h
    split at h <;> omega
theorem rplus_f {a b : Int} (ha : In a) (hb : In b) (k : Nat) (hk : 10300 ≤ k) : (In (a + b) → hornbeamref04_Plus.f k a b = some (a + b, 0)) ∧ (¬ In (a + b) → hornbeamref04_Plus.f k a b = some (0, 6)) := by
  unfold In at ha hb
  unfold hornbeamref04_Plus.f
  rw [rsize_f ha.1 ha.2, Option.bind_some, rsize_f hb.1 hb.2, Option.bind_some]
  have x0 : (0 : Int) ≤ (a.natAbs : Nat) ∧ ((a.natAbs : Nat) : Int) ≤ 9223372036854775808 := by omega
  have y0 : (0 : Int) ≤ (b.natAbs : Nat) ∧ ((b.natAbs : Nat) : Int) ≤ 9223372036854775808 := by omega
  by_cases hs : ((decide (a < 0)) == (decide (b < 0))) = true
  · rw [if_pos hs, digits_f (by omega) (by omega), Option.bind_some, digits_f (by omega) (by omega), Option.bind_some]
    obtain ⟨r, h1, h2, h3, h4⟩ := sum_f (dig4 (a.natAbs : Nat)) (dig4 (b.natAbs : Nat)) (dig4_Dg (by omega) (by omega)) (dig4_Dg (by omega) (by omega)) rfl (by rw [dig4_len]; omega)
    rw [dig4_V, dig4_V] at h4
    rw [dig4_len] at h2
    rw [h1 k (by omega), Option.bind_some]
    have hw := whole_f (decide (a < 0)) h3 (by omega) (by omega) k (by omega)
    have e : sg (decide (a < 0)) (V r) = a + b := by
      rw [beq_iff_eq, decide_eq_decide] at hs
      unfold sg; rw [h4]; simp only [decide_eq_true_eq]; split <;> omega
    rw [e] at hw
    exact ⟨fun h => by rw [hw.1 h, Option.bind_some], fun h => by rw [hw.2 h, Option.bind_some]⟩
  · rw [if_neg hs]
    rw [beq_iff_eq, decide_eq_decide] at hs
    by_cases hc : ((a.natAbs : Nat) : Int) ≥ ((b.natAbs : Nat) : Int)
    · rw [if_pos hc, uwrap_id (by omega) (by omega), digits_f (by omega) (by omega), Option.bind_some]
      have hw := whole_f (decide (a < 0)) (dig4_Dg (n := ((a.natAbs : Nat) : Int) - (b.natAbs : Nat)) (by omega) (by omega)) (by rw [dig4_len]; omega) (by rw [dig4_len]; omega) k (by omega)
      have e : sg (decide (a < 0)) (((a.natAbs : Nat) : Int) - (b.natAbs : Nat)) = a + b := by
        unfold sg; simp only [decide_eq_true_eq]; split <;> omega
      rw [dig4_V, e] at hw
      exact ⟨fun h => by rw [hw.1 h, Option.bind_some], fun h => by rw [hw.2 h, Option.bind_some]⟩
    · rw [if_neg hc, uwrap_id (by omega) (by omega), digits_f (by omega) (by omega), Option.bind_some]
      have hw := whole_f (decide (b < 0)) (dig4_Dg (n := ((b.natAbs : Nat) : Int) - (a.natAbs : Nat)) (by omega) (by omega)) (by rw [dig4_len]; omega) (by rw [dig4_len]; omega) k (by omega)
      have e : sg (decide (b < 0)) (((b.natAbs : Nat) : Int) - (a.natAbs : Nat)) = a + b := by
        unfold sg; simp only [decide_eq_true_eq]; split <;> omega
      rw [dig4_V, e] at hw
      exact ⟨fun h => by rw [hw.1 h, Option.bind_some], fun h => by rw [hw.2 h, Option.bind_some]⟩
/-- How two fractions stand to one another, their upper numbers whole. -/
def fracCmp (x : Int) (d : Int) (y : Int) (e : Int) : Int := cmpI (x * e) (y * d)
theorem refcmp_f {h l d h2 l2 d2 : Int} (h0 : 0 ≤ h) (h1 : h < 18446744073709551616) (l0 : 0 ≤ l) (l1 : l < 18446744073709551616) (d0 : 0 < d) (d1 : d < 18446744073709551616)
    (g0 : 0 ≤ h2) (g1 : h2 < 18446744073709551616) (m0 : 0 ≤ l2) (m1 : l2 < 18446744073709551616) (e0 : 0 < d2) (e1 : d2 < 18446744073709551616) (k : Nat) (hk : 10310 ≤ k) :
    hornbeamref05_Cmp.f k h l d h2 l2 d2 = some (fracCmp (h * 18446744073709551616 + l) d (h2 * 18446744073709551616 + l2) d2) := by
  obtain ⟨k, rfl⟩ : ∃ q, k = q + 3 := ⟨k - 3, by omega⟩
  obtain ⟨a, a1, a2, a3, a4⟩ := ofwide_f h0 h1 l0 l1
  obtain ⟨b, b1, b2, b3, b4⟩ := ofwide_f g0 g1 m0 m1
  obtain ⟨r, r1, r2, r3, r4⟩ := product_f a (dig4 d2) a3 (dig4_Dg (by omega) e1) (by omega) (by rw [dig4_len]; omega)
  obtain ⟨s, s1, s2, s3, s4⟩ := product_f b (dig4 d) b3 (dig4_Dg (by omega) d1) (by omega) (by rw [dig4_len]; omega)
  rw [dig4_V] at r4 s4
  rw [dig4_len] at r2 s2
  unfold hornbeamref05_Cmp.f
  rw [if_neg (by omega), hornbeamref05_Cmp.j0, if_neg (by decide), if_neg (by omega), if_neg (by omega), a1, Option.bind_some, digits_f (by omega) e1, Option.bind_some, r1 _ (by omega), Option.bind_some,
    b1, Option.bind_some, digits_f (by omega) d1, Option.bind_some, s1 _ (by omega), Option.bind_some, rcompare_f r s r3 s3 (by omega) (by omega) _ (by omega), Option.bind_some, r4, s4, a4, b4]
  rfl
end Rf
namespace Gi
open Go.Proofs.Ytancajnbjmcamaa.Dig
open Rf
theorem rmay_l (l : List Int) (hl : l.length ≤ 256) (d : Nat) : ∀ (k i : Nat) (s : Int), i + d = l.length → d < k → 0 ≤ s → s ≤ 1048576 →
    hornbeamref14_May.l0 k l s (i : Int) = some (decide ((∀ x ∈ l.drop i, 0 ≤ x) ∧ S1 (l.drop i) ≤ s)) := by
  induction d with
  | zero =>
    intro k i s hi hk s0 s1
    obtain ⟨k, rfl⟩ : ∃ m, k = m + 1 := ⟨k - 1, by omega⟩
    rw [hornbeamref14_May.l0, if_neg (by omega), List.drop_eq_nil_of_le (by omega), decide_eq_true]
    exact ⟨(fun x hx => by cases hx), by rw [S1]; omega⟩
  | succ d ih =>
    intro k i s hi hk s0 s1
    obtain ⟨k, rfl⟩ : ∃ m, k = m + 1 := ⟨k - 1, by omega⟩
    have hlt : i < l.length := by omega
    have e : l.getD i 0 = l[i] := by simp [List.getD, hlt]
    rw [hornbeamref14_May.l0, if_pos (by omega), if_pos (by omega), rd_nat, e, List.drop_eq_getElem_cons hlt, show wrap64 ((i : Int) + 1) = ((i + 1 : Nat) : Int) by unfold wrap64; omega]
    by_cases h1 : l[i] < 0
    · rw [if_pos h1, decide_eq_false (fun h => by have := h.1 l[i] List.mem_cons_self; omega)]
    · rw [if_neg h1]
      by_cases h2 : l[i] > s
      · rw [if_pos h2, decide_eq_false]
        intro h
        have := S1_nonneg (l := l.drop (i + 1)) fun y hy => h.1 y (List.mem_cons_of_mem _ hy)
        have h3 := h.2
        rw [S1] at h3
        omega
      · rw [if_neg h2, wrap64_id (n := s - l[i]) (by omega) (by omega), ih k (i + 1) (s - l[i]) (by omega) (by omega) (by omega) (by omega)]
        congr 1
        rw [decide_eq_decide, S1]
        constructor
        · intro h
          refine ⟨fun y hy => ?_, by omega⟩
          rcases List.mem_cons.1 hy with rfl | hy
          · omega
          · exact h.1 y hy
        · intro h; exact ⟨fun y hy => h.1 y (List.mem_cons_of_mem _ hy), by omega⟩
theorem rmay_f (l : List Int) (k : Nat) (hk : 300 ≤ k) : hornbeamref14_May.f k l = some (decide (MayG l)) := by
  obtain ⟨k, rfl⟩ : ∃ m, k = m + 1 := ⟨k - 1, by omega⟩
  have jt : hornbeamref14_May.j0 (k + 1) l true = some false := by rw [hornbeamref14_May.j0, if_pos rfl]
  unfold hornbeamref14_May.f
  by_cases h1 : (l.length : Int) < 2
  · rw [if_pos h1, jt, decide_eq_false (fun h => by have := h.1; omega)]
  · rw [if_neg h1]
    by_cases h2 : (l.length : Int) > 256
    · rw [decide_eq_true h2, jt, decide_eq_false (fun h => by have := h.2.1; omega)]
    · rw [decide_eq_false h2, hornbeamref14_May.j0, if_neg (by decide)]
      refine (show hornbeamref14_May.l0 k l 1048576 0 = _ from rmay_l l (by omega) l.length k 0 1048576 (by omega) (by omega) (by omega) (by omega)).trans ?_
      congr 1
      rw [decide_eq_decide, List.drop_zero]
      unfold MayG
      exact ⟨fun h => ⟨by omega, by omega, h⟩, fun h => h.2.2⟩
theorem rtotal_l (l : List Int) (h : MayG l) (d : Nat) : ∀ (k i : Nat) (s : Int), i + d = l.length → d < k → 0 ≤ s → s + S1 (l.drop i) ≤ 1048576 →
    hornbeamref14_Total.l0 k l s (i : Int) = some (s + S1 (l.drop i)) := by
  induction d with
  | zero =>
    intro k i s hi hk s0 s1
    obtain ⟨k, rfl⟩ : ∃ m, k = m + 1 := ⟨k - 1, by omega⟩
    rw [hornbeamref14_Total.l0, if_neg (by omega), List.drop_eq_nil_of_le (by omega), S1, Int.add_zero]
  | succ d ih =>
    intro k i s hi hk s0 s1
    obtain ⟨k, rfl⟩ : ∃ m, k = m + 1 := ⟨k - 1, by omega⟩
    have hlt : i < l.length := by omega
    have hlen := h.2.1
    have e : l.getD i 0 = l[i] := by simp [List.getD, hlt]
    have hx := h.2.2.1 l[i] (List.getElem_mem hlt)
    have hr := S1_nonneg (l := l.drop (i + 1)) fun y hy => h.2.2.1 y (List.mem_of_mem_drop hy)
    rw [List.drop_eq_getElem_cons hlt, S1] at s1 ⊢
    rw [hornbeamref14_Total.l0, if_pos (by omega), if_pos (by omega), rd_nat, e, show wrap64 ((i : Int) + 1) = ((i + 1 : Nat) : Int) by unfold wrap64; omega, uwrap_id (n := l[i]) hx (by omega), uwrap_id (n := s + l[i]) (by omega) (by omega),
      ih k (i + 1) (s + l[i]) (by omega) (by omega) (by omega) (by omega)]
    congr 1; omega
theorem rtotal_f {l : List Int} (h : MayG l) (k : Nat) (hk : 300 ≤ k) : hornbeamref14_Total.f k l = some (S1 l) := by
  have hlen := h.2.1
  have := rtotal_l l h l.length k 0 0 (by omega) (by omega) (by omega) (by rw [List.drop_zero]; have := h.2.2.2; omega)
  rw [List.drop_zero, Int.zero_add] at this
  exact this
theorem S2_drop_nonneg (l : List Int) : 0 ≤ S2 l := by
  induction l with
  | nil => exact Int.le_refl _
  | cons x l ih => have := sq_nonneg' x; rw [S2]; omega
theorem elem_le {l : List Int} (h : ∀ x ∈ l, 0 ≤ x) {x : Int} (hx : x ∈ l) : x ≤ S1 l := by
  induction l with
  | nil => cases hx
  | cons y l ih =>
    have h1 := h y List.mem_cons_self
    have hl := fun z hz => h z (List.mem_cons_of_mem _ hz)
    have h2 := S1_nonneg hl
    rw [S1]
    rcases List.mem_cons.1 hx with rfl | hx
    · omega
    · have := ih hl hx; omega
theorem rsquares_l (l : List Int) (h : MayG l) (d : Nat) : ∀ (k i : Nat) (q : Int), i + d = l.length → d + 10300 < k → 0 ≤ q → q + S2 (l.drop i) ≤ 1099511627776 →
    hornbeamref14_Squares.l0 k l (i : Int) 0 q = some (0, q + S2 (l.drop i)) := by
  induction d with
  | zero =>
    intro k i q hi hk q0 q1
    obtain ⟨k, rfl⟩ : ∃ m, k = m + 1 := ⟨k - 1, by omega⟩
    rw [hornbeamref14_Squares.l0, if_neg (by omega), List.drop_eq_nil_of_le (by omega), S2, Int.add_zero]
  | succ d ih =>
    intro k i q hi hk q0 q1
    obtain ⟨k, rfl⟩ : ∃ m, k = m + 1 := ⟨k - 1, by omega⟩
    have hlt : i < l.length := by omega
    have hlen := h.2.1
    have e : l.getD i 0 = l[i] := by simp [List.getD, hlt]
    have hx := h.2.2.1 l[i] (List.getElem_mem hlt)
    have hxs := elem_le h.2.2.1 (List.getElem_mem hlt)
    have hs := h.2.2.2
    have hr := S2_drop_nonneg (l.drop (i + 1))
    have hxx := sq_nonneg' l[i]
    rw [List.drop_eq_getElem_cons hlt, S2] at q1 ⊢
    rw [hornbeamref14_Squares.l0, if_pos (by omega), if_pos (by omega), rd_nat, e, show wrap64 ((i : Int) + 1) = ((i + 1 : Nat) : Int) by unfold wrap64; omega, uwrap_id (n := l[i]) hx (by omega),
      rmul_f hx (by omega) hx (by omega) k (by omega), Option.bind_some, radd_f (by omega) (by omega) q0 (by omega) (by omega) (by omega) (by omega) (by omega) k (by omega), Option.bind_some]
    have e2 : 0 * 18446744073709551616 + q + (l[i] * l[i] / 18446744073709551616 * 18446744073709551616 + l[i] * l[i] % 18446744073709551616) = q + l[i] * l[i] := by omega
    have e3 : wideSum (q + l[i] * l[i]) = (0, q + l[i] * l[i], 0) := by
      unfold wideSum
      rw [if_pos (by omega), Int.ediv_eq_zero_of_lt (by omega) (by omega), Int.emod_eq_of_lt (by omega) (by omega)]
    rw [e2, e3]
    refine (ih k (i + 1) (q + l[i] * l[i]) (by omega) (by omega) (by omega) (by omega)).trans ?_
    congr 2; omega
theorem rsquares_f {l : List Int} (h : MayG l) (k : Nat) (hk : 11000 ≤ k) : hornbeamref14_Squares.f k l = some (0, S2 l) := by
  have hlen := h.2.1
  have := S2_small h
  have h2 := rsquares_l l h l.length k 0 0 (by omega) (by omega) (by omega) (by rw [List.drop_zero]; omega)
  rw [List.drop_zero, Int.zero_add] at h2
  exact h2
theorem ralone_f (l : List Int) (k : Nat) (hk : 11010 ≤ k) : hornbeamref14_Alone.f k l = some (aloneD l) := by
  obtain ⟨k, rfl⟩ : ∃ m, k = m + 1 := ⟨k - 1, by omega⟩
  have jt : hornbeamref14_Alone.j0 (k + 1) l true = some (0, 0, 0) := by rw [hornbeamref14_Alone.j0, if_pos rfl]
  unfold hornbeamref14_Alone.f aloneD
  rw [rmay_f l _ (by omega), Option.bind_some]
  by_cases h : MayG l
  · rw [decide_eq_true h, if_pos rfl, rtotal_f h _ (by omega), Option.bind_some]
    by_cases h0 : S1 l = 0
    · rw [show (S1 l == 0) = true from beq_iff_eq.2 h0, jt, if_neg (show ¬ (MayG l ∧ S1 l ≠ 0) from fun h2 => h2.2 h0)]
    · rw [show (S1 l == 0) = false from beq_eq_false_iff_ne.2 h0, hornbeamref14_Alone.j0, if_neg (by decide), rsquares_f h _ (by omega), Option.bind_some, rtotal_f h _ (by omega), Option.bind_some, if_pos (show MayG l ∧ S1 l ≠ 0 from ⟨h, h0⟩)]
  · rw [decide_eq_false h, if_neg (by decide), jt, if_neg (show ¬ (MayG l ∧ S1 l ≠ 0) from fun h2 => h h2.1)]
theorem rscore_f (a b : List Int) (k : Nat) (hk : 11010 ≤ k) : hornbeamref14_Score.f k a b = some (scoreD a b) := by
  obtain ⟨k, rfl⟩ : ∃ m, k = m + 1 := ⟨k - 1, by omega⟩
  have jt : hornbeamref14_Score.j0 (k + 1) a b true = some (0, 0, 0) := by rw [hornbeamref14_Score.j0, if_pos rfl]
  have no : ∀ h : ¬ Sides a b, some (0, 0, 0) = some (scoreD a b) := fun h => by unfold scoreD; rw [if_neg h]
  unfold hornbeamref14_Score.f
  rw [rmay_f a _ (by omega), Option.bind_some]
  by_cases ha : MayG a
  · rw [decide_eq_true ha, if_pos rfl, rmay_f b _ (by omega), Option.bind_some]
    by_cases hb : MayG b
    · rw [decide_eq_true hb, if_pos rfl]
      by_cases hl : (a.length : Int) = (b.length : Int)
      · rw [if_pos hl, rtotal_f ha _ (by omega), Option.bind_some]
        by_cases h1 : S1 a = 0
        · rw [if_pos h1, jt]; exact no (fun h => h.2.2.2.1 h1)
        · rw [if_neg h1, rtotal_f hb _ (by omega), Option.bind_some]
          by_cases h2 : S1 b = 0
          · rw [show (S1 b == 0) = true from beq_iff_eq.2 h2, jt]; exact no (fun h => h.2.2.2.2 h2)
          · have hs : Sides a b := ⟨ha, hb, by omega, h1, h2⟩
            have a1 := S2_small ha; have b1 := S2_small hb
            have a2 := S1_nonneg ha.2.2.1; have b2 := S1_nonneg hb.2.2.1
            have a3 := ha.2.2.2; have b3 := hb.2.2.2
            obtain ⟨u1, u2, u3⟩ := upper_bound hs
            rw [show (S1 b == 0) = false from beq_eq_false_iff_ne.2 h2, hornbeamref14_Score.j0, if_neg (by decide), rsquares_f ha _ (by omega), Option.bind_some, rtotal_f hb _ (by omega), Option.bind_some,
              rtimesw_f (h := 0) (l := S2 a) (n := S1 b) (by omega) (by omega) (by omega) (by omega) (by omega) (by omega) _ (by omega), Option.bind_some, rsquares_f hb _ (by omega), Option.bind_some, rtotal_f ha _ (by omega), Option.bind_some,
              rtimesw_f (h := 0) (l := S2 b) (n := S1 a) (by omega) (by omega) (by omega) (by omega) (by omega) (by omega) _ (by omega), Option.bind_some, Int.zero_mul, Int.zero_add, Int.zero_add]
            unfold longD
            rw [radd_f (a := S2 a * S1 b / 18446744073709551616 % 18446744073709551616) (b := S2 a * S1 b % 18446744073709551616) (c := S2 b * S1 a / 18446744073709551616 % 18446744073709551616) (d := S2 b * S1 a % 18446744073709551616) (by omega) (by omega) (by omega) (by omega) (by omega) (by omega) (by omega) (by omega) _ (by omega), Option.bind_some, Option.bind_some, Option.bind_some, uwrap_id (n := S1 a * S1 b) (by omega) (by omega)]
            have f1 : S2 a * S1 b / 18446744073709551616 % 18446744073709551616 = S2 a * S1 b / 18446744073709551616 := Int.emod_eq_of_lt (by omega) (by omega)
            have f2 : S2 b * S1 a / 18446744073709551616 % 18446744073709551616 = S2 b * S1 a / 18446744073709551616 := Int.emod_eq_of_lt (by omega) (by omega)
            rw [f1, f2]
            have e : S2 a * S1 b / 18446744073709551616 * 18446744073709551616 + S2 a * S1 b % 18446744073709551616 + (S2 b * S1 a / 18446744073709551616 * 18446744073709551616 + S2 b * S1 a % 18446744073709551616) = upper a b := by unfold upper; omega
            rw [e]
            unfold wideSum scoreD
            rw [if_pos (show upper a b < 340282366920938463463374607431768211456 by unfold upper; omega), if_pos hs]
      · rw [if_neg hl, jt]; exact no (fun h => hl (by rw [h.2.2.1]))
    · rw [decide_eq_false hb, if_neg (by decide), jt]; exact no (fun h => hb h.2.1)
  · rw [decide_eq_false ha, if_neg (by decide), jt]; exact no (fun h => ha h.1)
end Gi
namespace Sp
open Go.Proofs.Ytancajnbjmcamaa.Dig
open Rf
theorem natAbs_sq (a : Int) : ((a.natAbs : Nat) : Int) * ((a.natAbs : Nat) : Int) = a * a := Int.natAbs_mul_self' a
theorem rsquare_f {a : Int} (ha : InI a) (k : Nat) (hk : 10300 ≤ k) : hornbeamref15_square.f k a = some (wideD (a * a)) := by
  unfold InI at ha
  unfold hornbeamref15_square.f wideD
  rw [rsize_f ha.1 ha.2, Option.bind_some, Option.bind_some, rmul_f (by omega) (by omega) (by omega) (by omega) k hk, Option.bind_some, natAbs_sq]
def MayR (c s q : Int) : Prop := 0 ≤ c ∧ c ≤ 1048576 ∧ 0 ≤ q ∧ ((s.natAbs : Nat) : Int) ≤ 1048576 * c ∧ q ≤ 1099511627776 * c ∧ s * s ≤ c * q
instance (c s q : Int) : Decidable (MayR c s q) := by unfold MayR; exact inferInstance
theorem may_iff (c s q : Int) : MayR c s q ↔ MayP c s q := by
  unfold MayR MayP
  constructor
  · rintro ⟨h1, h2, h3, h4, h5, h6⟩
    by_cases h0 : c = 0
    · exact .inl ⟨h0, by omega, by omega⟩
    · exact .inr ⟨by omega, h2, h3, h5, by omega, by omega, h6⟩
  · rintro (⟨rfl, rfl, rfl⟩ | ⟨h1, h2, h3, h4, h5, h6, h7⟩)
    · decide
    · exact ⟨by omega, h2, h3, by omega, h4, h7⟩
theorem rmay_f (k : Nat) (hk : 10310 ≤ k) {c s q : Int} (hc : InI c) (hs : InI s) (hq : InI q) : hornbeamref15_May.f k c s q = some (decide (MayP c s q)) := by
  rw [← decide_eq_decide.2 (may_iff c s q)]
  obtain ⟨k, rfl⟩ : ∃ m, k = m + 5 := ⟨k - 5, by omega⟩
  have jt : ∀ m, hornbeamref15_May.j0 (m + 1) true c s q = some false := fun m => by rw [hornbeamref15_May.j0, if_pos rfl]
  have jt1 : ∀ m x, hornbeamref15_May.j1 (m + 1) x true c s q = some false := fun m x => by rw [hornbeamref15_May.j1, if_pos rfl]
  unfold InI at hc hq
  have hs' := hs
  unfold InI at hs'
  unfold hornbeamref15_May.f
  by_cases h1 : c < 0
  · rw [if_pos h1, jt, decide_eq_false (fun h => by have := h.1; omega)]
  rw [if_neg h1]
  by_cases h2 : c > 1048576
  · rw [if_pos h2, jt, decide_eq_false (fun h => by have := h.2.1; omega)]
  rw [if_neg h2]
  by_cases h3 : q < 0
  · rw [decide_eq_true h3, jt, decide_eq_false (fun h => by have := h.2.2.1; omega)]
  rw [decide_eq_false h3, hornbeamref15_May.j0, if_neg (by decide), rsize_f hs'.1 hs'.2, Option.bind_some, uwrap_id (n := c) (by omega) (by omega), uwrap_id (n := 1048576 * c) (by omega) (by omega), uwrap_id (n := q) (by omega) (by omega), uwrap_id (n := 1099511627776 * c) (by omega) (by omega)]
  by_cases h4 : ((s.natAbs : Nat) : Int) > 1048576 * c
  · rw [if_pos h4, jt1, decide_eq_false (fun h => by have := h.2.2.2.1; omega)]
  rw [if_neg h4]
  by_cases h5 : q > 1099511627776 * c
  · rw [decide_eq_true h5, jt1, decide_eq_false (fun h => by have := h.2.2.2.2.1; omega)]
  have hcq := Int.mul_nonneg (a := c) (b := q) (by omega) (by omega)
  have hcq2 : c * q ≤ 1048576 * 1152921504606846976 := Int.mul_le_mul (by omega) (by omega) (by omega) (by omega)
  have hss := sq_nonneg' s
  have hsb : s * s ≤ 1099511627776 * 1099511627776 := by
    rw [← natAbs_sq]
    exact Int.mul_le_mul (by omega) (by omega) (by omega) (by omega)
  rw [decide_eq_false h5, hornbeamref15_May.j1, if_neg (by decide), rsquare_f hs _ (by omega), Option.bind_some, uwrap_id (n := q) (by omega) (by omega), rmul_f (by omega) (by omega) (by omega) (by omega) _ (by omega), Option.bind_some]
  unfold wideD
  rw [rcmpw_f _ (by omega) (by omega) (by omega) (by omega) (by omega) (by omega) (by omega) (by omega) (by omega), Option.bind_some, show s * s / 18446744073709551616 * 18446744073709551616 + s * s % 18446744073709551616 = s * s by omega, show c * q / 18446744073709551616 * 18446744073709551616 + c * q % 18446744073709551616 = c * q by omega]
  congr 1
  rw [decide_eq_decide]
  unfold cmpI MayR
  constructor
  · intro h
    refine ⟨by omega, by omega, by omega, by omega, by omega, ?_⟩
    by_cases h7 : s * s < c * q
    · omega
    · rw [if_neg h7] at h
      by_cases h8 : c * q < s * s
      · rw [if_pos h8] at h; omega
      · omega
  · rintro ⟨_, _, _, _, _, h⟩
    split
    · omega
    · rw [if_neg (by omega)]; omega
theorem ralone_f (k : Nat) (hk : 10310 ≤ k) {c s q : Int} (hc : InI c) (hs : InI s) (hq : InI q) : hornbeamref15_Alone.f k c s q = some (if 0 < c ∧ MayP c s q then ((wideD (s * s)).1, (wideD (s * s)).2, c) else (0, 0, 0)) := by
  unfold hornbeamref15_Alone.f
  rw [rmay_f k hk hc hs hq, Option.bind_some]
  by_cases h : MayP c s q
  · have hb : 0 ≤ c ∧ c ≤ 1048576 := by rcases h with h | h <;> omega
    rw [decide_eq_true h, if_pos rfl]
    by_cases h0 : c = 0
    · rw [if_pos h0, if_neg (show ¬ (0 < c ∧ MayP c s q) from fun h2 => by omega)]
    · rw [if_neg h0, rsquare_f hs k (by omega), Option.bind_some, if_pos (show 0 < c ∧ MayP c s q from ⟨by omega, h⟩), uwrap_id (n := c) (by omega) (by omega)]
  · rw [decide_eq_false h, if_neg (by decide), if_neg (show ¬ (0 < c ∧ MayP c s q) from fun h2 => h h2.2)]
theorem rscore_f (k : Nat) (hk : 10330 ≤ k) {c s q c2 s2 q2 : Int} (hc : InI c) (hs : InI s) (hq : InI q) (hc2 : InI c2) (hs2 : InI s2) (hq2 : InI q2) :
    hornbeamref15_Score.f k c s q c2 s2 q2 = some (if (0 < c ∧ MayP c s q) ∧ (0 < c2 ∧ MayP c2 s2 q2) then ((wideD (s * s * c2 + s2 * s2 * c)).1, (wideD (s * s * c2 + s2 * s2 * c)).2, c * c2) else (0, 0, 0)) := by
  obtain ⟨k, rfl⟩ : ∃ m, k = m + 1 := ⟨k - 1, by omega⟩
  have jt : hornbeamref15_Score.j0 (k + 1) true c s q c2 s2 q2 = some (0, 0, 0) := by rw [hornbeamref15_Score.j0, if_pos rfl]
  unfold hornbeamref15_Score.f
  rw [rmay_f _ (by omega) hc hs hq, Option.bind_some]
  by_cases h : MayP c s q
  · have hb : 0 ≤ c ∧ c ≤ 1048576 := by rcases h with h | h <;> omega
    rw [decide_eq_true h, if_pos rfl, rmay_f _ (by omega) hc2 hs2 hq2, Option.bind_some]
    by_cases h2 : MayP c2 s2 q2
    · have hb2 : 0 ≤ c2 ∧ c2 ≤ 1048576 := by rcases h2 with h2 | h2 <;> omega
      rw [decide_eq_true h2, if_pos rfl]
      by_cases h0 : c = 0
      · rw [if_pos h0, jt, if_neg (show ¬ ((0 < c ∧ MayP c s q) ∧ (0 < c2 ∧ MayP c2 s2 q2)) from fun h3 => by have := h3.1.1; omega)]
      · rw [if_neg h0]
        by_cases h02 : c2 = 0
        · rw [show (c2 == 0) = true from beq_iff_eq.2 h02, jt, if_neg (show ¬ ((0 < c ∧ MayP c s q) ∧ (0 < c2 ∧ MayP c2 s2 q2)) from fun h3 => by have := h3.2.1; omega)]
        · have t1 : 0 < c ∧ MayP c s q := ⟨by omega, h⟩
          have t2 : 0 < c2 ∧ MayP c2 s2 q2 := ⟨by omega, h2⟩
          have b := there_bound t1; have b2 := there_bound t2
          have hx : 0 ≤ s * s * c2 ∧ s * s * c2 ≤ 1208925819614629174706176 * 1048576 := ⟨Int.mul_nonneg b.2.1 (by omega), Int.mul_le_mul b.2.2 b2.1 (by omega) (by omega)⟩
          have hx2 : 0 ≤ s2 * s2 * c ∧ s2 * s2 * c ≤ 1208925819614629174706176 * 1048576 := ⟨Int.mul_nonneg b2.2.1 (by omega), Int.mul_le_mul b2.2.2 b.1 (by omega) (by omega)⟩
          have hcc : 0 ≤ c * c2 ∧ c * c2 ≤ 1048576 * 1048576 := ⟨Int.mul_nonneg (by omega) (by omega), Int.mul_le_mul b.1 b2.1 (by omega) (by omega)⟩
          rw [show (c2 == 0) = false from beq_eq_false_iff_ne.2 h02, hornbeamref15_Score.j0, if_neg (by decide), if_pos (show (0 < c ∧ MayP c s q) ∧ (0 < c2 ∧ MayP c2 s2 q2) from ⟨t1, t2⟩), rsquare_f hs _ (by omega), Option.bind_some]
          unfold hornbeamref15_times.f
          unfold wideD
          rw [uwrap_id (n := c2) (by omega) (by omega), uwrap_id (n := c) (by omega) (by omega), rtimesw_f (h := s * s / 18446744073709551616) (l := s * s % 18446744073709551616) (n := c2) (by omega) (by omega) (by omega) (by omega) (by omega) (by omega) _ (by omega), Option.bind_some, Option.bind_some,
            rsquare_f hs2 _ (by omega), Option.bind_some]
          unfold wideD
          rw [rtimesw_f (h := s2 * s2 / 18446744073709551616) (l := s2 * s2 % 18446744073709551616) (n := c) (by omega) (by omega) (by omega) (by omega) (by omega) (by omega) _ (by omega), Option.bind_some, Option.bind_some]
          have e : s * s / 18446744073709551616 * 18446744073709551616 + s * s % 18446744073709551616 = s * s := by omega
          have e2 : s2 * s2 / 18446744073709551616 * 18446744073709551616 + s2 * s2 % 18446744073709551616 = s2 * s2 := by omega
          rw [e, e2]
          unfold longD
          simp only []
          generalize s * s * c2 = X at *
          generalize s2 * s2 * c = Y at *
          rw [Int.emod_eq_of_lt (a := X / 18446744073709551616) (by omega) (by omega), Int.emod_eq_of_lt (a := Y / 18446744073709551616) (by omega) (by omega),
            radd_f (a := X / 18446744073709551616) (b := X % 18446744073709551616) (c := Y / 18446744073709551616) (d := Y % 18446744073709551616) (by omega) (by omega) (by omega) (by omega) (by omega) (by omega) (by omega) (by omega) _ (by omega), Option.bind_some,
            show X / 18446744073709551616 * 18446744073709551616 + X % 18446744073709551616 + (Y / 18446744073709551616 * 18446744073709551616 + Y % 18446744073709551616) = X + Y by omega]
          unfold wideSum
          rw [if_pos (by omega), wrap64_id (n := c * c2) (by omega) (by omega), uwrap_id (n := c * c2) (by omega) (by omega)]
    · rw [decide_eq_false h2, if_neg (by decide), jt, if_neg (show ¬ ((0 < c ∧ MayP c s q) ∧ (0 < c2 ∧ MayP c2 s2 q2)) from fun h3 => h2 h3.2.2)]
  · rw [decide_eq_false h, if_neg (by decide), jt, if_neg (show ¬ ((0 < c ∧ MayP c s q) ∧ (0 < c2 ∧ MayP c2 s2 q2)) from fun h3 => h h3.1.2)]
end Sp
namespace Fr
open Go.Proofs.Ytancajnbjmcamaa.Dig
open Rf
theorem rfc_f (k : Nat) (hk : 10310 ≤ k) {h l d h2 l2 d2 : Int} (h0 : 0 ≤ h) (h1 : h < 18446744073709551616) (l0 : 0 ≤ l) (l1 : l < 18446744073709551616) (e0 : 0 ≤ d) (e1 : d < 18446744073709551616)
    (g0 : 0 ≤ h2) (g1 : h2 < 18446744073709551616) (m0 : 0 ≤ l2) (m1 : l2 < 18446744073709551616) (f0 : 0 ≤ d2) (f1 : d2 < 18446744073709551616) :
    hornbeamref05_Cmp.f k h l d h2 l2 d2 = some (FC (h * 18446744073709551616 + l) d (h2 * 18446744073709551616 + l2) d2) := by
  by_cases hd : d = 0
  · obtain ⟨k, rfl⟩ : ∃ q, k = q + 3 := ⟨k - 3, by omega⟩
    unfold hornbeamref05_Cmp.f FC
    rw [if_pos hd, if_pos hd]
    by_cases he : d2 = 0
    · rw [if_pos he, show (d2 == 0) = true from beq_iff_eq.2 he, hornbeamref05_Cmp.j0, if_pos rfl]
    · rw [if_neg he, show (d2 == 0) = false from beq_eq_false_iff_ne.2 he, hornbeamref05_Cmp.j0, if_neg (by decide), if_pos hd]
  · by_cases he : d2 = 0
    · obtain ⟨k, rfl⟩ : ∃ q, k = q + 3 := ⟨k - 3, by omega⟩
      unfold hornbeamref05_Cmp.f FC
      rw [if_neg hd, if_neg hd, if_pos he, hornbeamref05_Cmp.j0, if_neg (by decide), if_neg hd, if_pos he]
    · rw [refcmp_f h0 h1 l0 l1 (by omega) e1 g0 g1 m0 m1 (by omega) f1 k hk]
      unfold FC fracCmp
      rw [if_neg hd, if_neg he]
end Fr
open Sp (InI)
theorem in0 : InI 0 := by unfold InI; omega
theorem wf_in {a : Int} (h : (Lit.int .i64 a).wf = true) : InI a := wf_i64 h
def In (n : Int) : Prop := -9223372036854775808 ≤ n ∧ n ≤ 9223372036854775807
theorem plus_in {a b : Int} (ha : In a) (hb : In b) (h : In (a + b)) : prod_Plus.f a b = some (a + b, 0) := by
  unfold In at *
  unfold prod_Plus.f
  rw [wrap64_id h.1 h.2]
  split
  · rename_i h1
    rw [if_neg]
    rw [beq_iff_eq, decide_eq_decide] at h1
    rw [bne_iff_ne, ne_eq, decide_eq_decide]
    omega
  · rfl
theorem plus_out {a b : Int} (ha : In a) (hb : In b) (h : ¬ In (a + b)) : prod_Plus.f a b = some (0, 6) := by
  unfold In at *
  unfold prod_Plus.f
  rw [if_pos, if_pos]
  · rw [bne_iff_ne, ne_eq, decide_eq_decide]; unfold wrap64; omega
  · rw [beq_iff_eq, decide_eq_decide]; omega
/-- A right histogram. -/
def Rt (K B C : Int) (l3 : List Int) (l4 : List S54) : Prop := (1 ≤ B ∧ B ≤ 257) ∧ ((K = 0 ∧ 2 ≤ C ∧ C ≤ 256 ∧ (l3.length : Int) = B * C ∧ l4.length = 0) ∨ (K = 1 ∧ C = 0 ∧ l3.length = 0 ∧ (l4.length : Int) = B))
theorem area {B C : Int} (b0 : 1 ≤ B) (b1 : B ≤ 257) (c0 : 0 ≤ C) (c1 : C ≤ 256) : 0 ≤ B * C ∧ B * C ≤ 65792 := by
  refine ⟨Int.mul_nonneg (by omega) c0, ?_⟩
  have := Int.mul_le_mul b1 c1 c0 (by omega : (0 : Int) ≤ 257)
  omega
theorem right_f (K B C : Int) (l3 : List Int) (l4 : List S54) : ∃ r, hist_Right.f K B C l3 l4 = some r ∧ (r = true ↔ Rt K B C l3 l4) := by
  unfold hist_Right.f hist_may.f Rt
  by_cases h1 : B < 1
  · rw [if_pos h1, Option.bind_some, if_neg (by decide)]; exact ⟨_, rfl, ⟨fun h => (by cases h), fun h => absurd h (by omega)⟩⟩
  rw [if_neg h1]
  by_cases h2 : B > 257
  · rw [if_pos h2, Option.bind_some, if_neg (by decide)]; exact ⟨_, rfl, ⟨fun h => (by cases h), fun h => absurd h (by omega)⟩⟩
  rw [if_neg h2]
  by_cases h3 : K = 0
  · subst h3
    rw [if_pos rfl]
    by_cases h4 : C ≥ 2
    · rw [if_pos h4]
      by_cases h5 : C ≤ 256
      · obtain ⟨a0, a1⟩ := area (B := B) (C := C) (by omega) (by omega) (by omega) h5
        rw [if_pos h5, Option.bind_some, if_pos rfl, if_pos rfl, wrap64_id (by omega) (by omega)]
        by_cases h6 : (l3.length : Int) = B * C
        · rw [if_pos h6]; exact ⟨_, rfl, by rw [beq_iff_eq]; omega⟩
        · rw [if_neg h6]; exact ⟨_, rfl, ⟨fun h => (by cases h), fun h => absurd h (by omega)⟩⟩
      · rw [if_neg h5, if_neg (by decide), Option.bind_some, if_neg (by decide)]; exact ⟨_, rfl, ⟨fun h => (by cases h), fun h => absurd h (by omega)⟩⟩
    · rw [if_neg h4, if_neg (by decide), Option.bind_some, if_neg (by decide)]; exact ⟨_, rfl, ⟨fun h => (by cases h), fun h => absurd h (by omega)⟩⟩
  · rw [if_neg h3]
    by_cases h4 : K = 1
    · subst h4
      rw [if_pos rfl, Option.bind_some]
      by_cases h5 : C = 0
      · subst h5
        rw [if_pos (by decide), if_neg (by decide)]
        by_cases h6 : (l3.length : Int) = 0
        · rw [if_pos h6]; exact ⟨_, rfl, by rw [beq_iff_eq]; omega⟩
        · rw [if_neg h6]; exact ⟨_, rfl, ⟨fun h => (by cases h), fun h => absurd h (by omega)⟩⟩
      · rw [if_neg (by simpa using h5)]; exact ⟨_, rfl, ⟨fun h => (by cases h), fun h => absurd h (by omega)⟩⟩
    · rw [if_neg h4, Option.bind_some, if_neg (by decide)]; exact ⟨_, rfl, ⟨fun h => (by cases h), fun h => absurd h (by omega)⟩⟩
theorem rd_nat (l : List Int) (i : Nat) : rd l (i : Int) = l.getD i 0 := rfl
theorem rd_in {l : List Int} (h : ∀ x ∈ l, InI x) (i : Int) : InI (rd l i) := by
  unfold rd
  by_cases hi : i.toNat < l.length
  · rw [show l.getD i.toNat 0 = l[i.toNat] by simp [List.getD, hi]]; exact h _ (List.getElem_mem _)
  · rw [show l.getD i.toNat 0 = 0 by simp [List.getD, List.getElem?_eq_none (by omega : l.length ≤ i.toNat)]]; exact in0
theorem rdm_in {l : List S54} (h : ∀ m ∈ l, InI m.f0 ∧ InI m.f1 ∧ InI m.f2) (i : Int) (h0 : 0 ≤ i) (h1 : i < (l.length : Int)) : InI (rd_T54 l i).f0 ∧ InI (rd_T54 l i).f1 ∧ InI (rd_T54 l i).f2 := by
  have e : rd_T54 l i ∈ l := by
    unfold rd_T54
    rw [show l.getD i.toNat _ = l[i.toNat]'(by omega) by simp [List.getD, show i.toNat < l.length by omega]]
    exact List.getElem_mem _
  exact h _ e
def Good (r : List Int × Int × Int × Int × Int) : Prop := InI r.2.1 ∧ InI r.2.2.1 ∧ InI r.2.2.2.1
theorem rright_f (k : Nat) (hk : 1 ≤ k) (K B C : Int) (l3 : List Int) (l4 : List S54) : ∃ r, hornbeamref12_Right.f k K B C l3 l4 = some r ∧ (r = true ↔ Rt K B C l3 l4) := by
  obtain ⟨k, rfl⟩ : ∃ q, k = q + 1 := ⟨k - 1, by omega⟩
  unfold hornbeamref12_Right.f hornbeamref12_May.f Rt
  have no : ∀ p : Prop, ¬ p → ∃ r, some false = some r ∧ (r = true ↔ p) := fun p hp => ⟨_, rfl, ⟨fun h => (by cases h), fun h => absurd h hp⟩⟩
  by_cases h1 : B < 1
  · rw [if_pos h1, hornbeamref12_May.j0, if_pos rfl, Option.bind_some, if_neg (by decide)]; exact no _ (by omega)
  rw [if_neg h1]
  by_cases h2 : B > 257
  · rw [decide_eq_true h2, hornbeamref12_May.j0, if_pos rfl, Option.bind_some, if_neg (by decide)]; exact no _ (by omega)
  rw [decide_eq_false h2, hornbeamref12_May.j0, if_neg (by decide)]
  by_cases h3 : K = 0
  · subst h3
    rw [if_pos rfl]
    by_cases h4 : C ≥ 2
    · rw [if_pos h4, Option.bind_some]
      by_cases h5 : C ≤ 256
      · obtain ⟨a0, a1⟩ := area (B := B) (C := C) (by omega) (by omega) (by omega) h5
        rw [decide_eq_true h5, if_pos rfl, if_pos rfl, wrap64_id (by omega) (by omega)]
        by_cases h6 : (l3.length : Int) = B * C
        · rw [if_pos h6]; exact ⟨_, rfl, by rw [beq_iff_eq]; omega⟩
        · rw [if_neg h6]; exact no _ (by omega)
      · rw [decide_eq_false h5, if_neg (by decide)]; exact no _ (by omega)
    · rw [if_neg h4, Option.bind_some, if_neg (by decide)]; exact no _ (by omega)
  · rw [if_neg h3]
    by_cases h4 : K = 1
    · subst h4
      rw [if_pos rfl, Option.bind_some]
      by_cases h5 : C = 0
      · subst h5
        rw [if_pos (by decide), if_neg (by decide)]
        by_cases h6 : (l3.length : Int) = 0
        · rw [if_pos h6]; exact ⟨_, rfl, by rw [beq_iff_eq]; omega⟩
        · rw [if_neg h6]; exact no _ (by omega)
      · rw [if_neg (by simpa using h5)]; exact no _ (by omega)
    · rw [if_neg h4, Option.bind_some, if_neg (by decide)]; exact no _ (by omega)
theorem plus_both {a b : Int} (ha : InI a) (hb : InI b) : ∃ x e, prod_Plus.f a b = some (x, e) ∧ InI x ∧ ∀ k, 10300 ≤ k → hornbeamref04_Plus.f k a b = some (x, e) := by
  by_cases h : In (a + b)
  · exact ⟨_, _, plus_in ha hb h, h, fun k hk => (Rf.rplus_f ha hb k hk).1 h⟩
  · exact ⟨_, _, plus_out ha hb h, in0, fun k hk => (Rf.rplus_f ha hb k hk).2 h⟩
theorem mom_both {a b c d e f : Int} (ha : InI a) (hb : InI b) (hc : InI c) (hd : InI d) (he : InI e) (hf : InI f) : ∃ r1 r2 r3 r4, hist_moments_1.f a b c d e f = some (r1, r2, r3, r4) ∧ InI r1 ∧ InI r2 ∧ InI r3 ∧ ∀ k, 10300 ≤ k → hornbeamref12_plus.f k a b c d e f = some (r1, r2, r3, r4) := by
  obtain ⟨x, e1, hx, ix, gx⟩ := plus_both ha hd
  obtain ⟨y, e2, hy, iy, gy⟩ := plus_both hb he
  obtain ⟨z, e3, hz, iz, gz⟩ := plus_both hc hf
  have p1 : hist_plus.f a d false = some (x, e1) := by unfold hist_plus.f; rw [hx, Option.bind_some]
  have p2 : hist_plus.f b e true = some (y, e2) := by unfold hist_plus.f; rw [hy, Option.bind_some]
  have p3 : hist_plus.f c f false = some (z, e3) := by unfold hist_plus.f; rw [hz, Option.bind_some]
  have ea : hist_moments_1.f a b c d e f = if e1 = 0 then (if e2 = 0 then (if e3 = 0 then some (x, y, z, 0) else some (0, 0, 0, e3)) else some (0, 0, 0, e2)) else some (0, 0, 0, e1) := by
    unfold hist_moments_1.f; rw [p1, Option.bind_some, p2, Option.bind_some, p3, Option.bind_some]
  have eb : ∀ k, 10300 ≤ k → hornbeamref12_plus.f k a b c d e f = if e1 = 0 then (if e2 = 0 then (if e3 = 0 then some (x, y, z, 0) else some (0, 0, 0, e3)) else some (0, 0, 0, e2)) else some (0, 0, 0, e1) := fun k hk => by
    unfold hornbeamref12_plus.f; rw [gx k hk, Option.bind_some, gy k hk, Option.bind_some, gz k hk, Option.bind_some]
  rw [ea]
  by_cases h1 : e1 = 0
  · by_cases h2 : e2 = 0
    · by_cases h3 : e3 = 0
      · exact ⟨x, y, z, 0, by rw [if_pos h1, if_pos h2, if_pos h3], ix, iy, iz, fun k hk => by rw [eb k hk, if_pos h1, if_pos h2, if_pos h3]⟩
      · exact ⟨0, 0, 0, e3, by rw [if_pos h1, if_pos h2, if_neg h3], in0, in0, in0, fun k hk => by rw [eb k hk, if_pos h1, if_pos h2, if_neg h3]⟩
    · exact ⟨0, 0, 0, e2, by rw [if_pos h1, if_neg h2], in0, in0, in0, fun k hk => by rw [eb k hk, if_pos h1, if_neg h2]⟩
  · exact ⟨0, 0, 0, e1, by rw [if_neg h1], in0, in0, in0, fun k hk => by rw [eb k hk, if_neg h1]⟩
theorem both_l1 {K B C : Int} {l3 : List Int} {l4 : List S54} (hR : Rt K B C l3 l4) (h3 : ∀ x ∈ l3, InI x) (h4 : ∀ m ∈ l4, InI m.f0 ∧ InI m.f1 ∧ InI m.f2) (t x11 : Int) (x0 : 0 ≤ x11) (x1 : x11 < B) (n : Nat) (hC : (n : Int) = C) (Kd : Nat) (hKd : 10300 ≤ Kd) {c s q : Int} (ic : InI c) (is_ : InI s) (iq : InI q)
    (IH : ∀ k x9 c s q, Kd < k → x9.length = n → (∀ x ∈ x9, InI x) → InI c → InI s → InI q → ∃ r, hist_Sum.l0 k t x9 (wrap64 (x11 + 1)) K B C l3 l4 c s q = some r ∧ Good r ∧ hornbeamref12_Sum.l0 k t x9 (wrap64 (x11 + 1)) K B C l3 l4 c s q = some r) :
    ∀ (m i k : Nat) (x9 : List Int), i + m = n → Kd + m + 1 < k → x9.length = n → (∀ x ∈ x9, InI x) → ∃ r, hist_Sum.l1 k t x9 x11 (n : Int) (i : Int) K B C l3 l4 c s q = some r ∧ Good r ∧ hornbeamref12_Sum.l1 k t x9 x11 (i : Int) K B C l3 l4 c s q = some r
  | 0, i, k + 1, x9, h, hk, h9, i9 => by
    by_cases hK : K = 1
    · have hl : (l4.length : Int) = B := by
        obtain ⟨_, h⟩ := hR
        rcases h with h | h
        · omega
        · exact h.2.2.2
      obtain ⟨m0, m1, m2⟩ := rdm_in h4 x11 x0 (by omega)
      obtain ⟨r1, r2, r3, r4, e, i1, i2, i3, er⟩ := mom_both ic is_ iq m0 m1 m2
      have ea : hist_Sum.l1 (k + 1) t x9 x11 (n : Int) (i : Int) K B C l3 l4 c s q = if r4 = 0 then hist_Sum.l0 k t x9 (wrap64 (x11 + 1)) K B C l3 l4 r1 r2 r3 else some ([], 0, 0, 0, r4) := by
        rw [hist_Sum.l1, if_neg (by omega), if_pos hK, if_pos x0, if_pos (by omega), e, Option.bind_some]
      have eb : hornbeamref12_Sum.l1 (k + 1) t x9 x11 (i : Int) K B C l3 l4 c s q = if r4 = 0 then hornbeamref12_Sum.l0 k t x9 (wrap64 (x11 + 1)) K B C l3 l4 r1 r2 r3 else some ([], 0, 0, 0, r4) := by
        rw [hornbeamref12_Sum.l1, if_neg (by omega), if_pos hK, if_pos x0, if_pos (by omega), er k (by omega), Option.bind_some]
      rw [ea, eb]
      by_cases h4 : r4 = 0
      · simp only [if_pos h4]
        exact IH k x9 _ _ _ (by omega) h9 i9 i1 i2 i3
      · simp only [if_neg h4]
        exact ⟨_, rfl, ⟨in0, in0, in0⟩, rfl⟩
    · have ea : hist_Sum.l1 (k + 1) t x9 x11 (n : Int) (i : Int) K B C l3 l4 c s q = hist_Sum.l0 k t x9 (wrap64 (x11 + 1)) K B C l3 l4 c s q := by
        rw [hist_Sum.l1, if_neg (by omega), if_neg hK]
      have eb : hornbeamref12_Sum.l1 (k + 1) t x9 x11 (i : Int) K B C l3 l4 c s q = hornbeamref12_Sum.l0 k t x9 (wrap64 (x11 + 1)) K B C l3 l4 c s q := by
        rw [hornbeamref12_Sum.l1, if_neg (by omega), if_neg hK]
      rw [ea, eb]
      exact IH k x9 _ _ _ (by omega) h9 i9 ic is_ iq
  | m + 1, i, k + 1, x9, h, hk, h9, i9 => by
    obtain ⟨⟨b0, b1⟩, hR'⟩ := hR
    have hR2 : 2 ≤ C ∧ C ≤ 256 ∧ (l3.length : Int) = B * C := by
      rcases hR' with h | h
      · exact ⟨h.2.1, h.2.2.1, h.2.2.2.1⟩
      · omega
    obtain ⟨c0, c1, hl3⟩ := hR2
    obtain ⟨a0, a1⟩ := area b0 b1 (by omega) c1
    have p0 : 0 ≤ x11 * C := Int.mul_nonneg x0 (by omega)
    have p1 : x11 * C + C ≤ B * C := by
      have := Int.mul_le_mul_of_nonneg_right (show x11 + 1 ≤ B by omega) (show 0 ≤ C by omega)
      rw [Int.add_mul, Int.one_mul] at this
      exact this
    obtain ⟨y, e, hp, iy, hq⟩ := plus_both (rd_in i9 (i : Int)) (rd_in h3 (x11 * C + (i : Int)))
    have ea : hist_Sum.l1 (k + 1) t x9 x11 (n : Int) (i : Int) K B C l3 l4 c s q = if e = 0 then hist_Sum.l1 k t (x9.set ((i : Int)).toNat y) x11 (n : Int) ((i : Int) + 1) K B C l3 l4 c s q else some ([], 0, 0, 0, e) := by
      rw [hist_Sum.l1, if_pos (by omega), if_pos (by omega), if_pos (by omega), wrap64_id (n := x11 * C) (by omega) (by omega), wrap64_id (n := x11 * C + (i : Int)) (by omega) (by omega), if_pos (by omega), if_pos (by omega), hp, Option.bind_some, wrap64_id (n := (i : Int) + 1) (by omega) (by omega)]
    have eb : hornbeamref12_Sum.l1 (k + 1) t x9 x11 (i : Int) K B C l3 l4 c s q = if e = 0 then hornbeamref12_Sum.l1 k t (x9.set ((i : Int)).toNat y) x11 ((i : Int) + 1) K B C l3 l4 c s q else some ([], 0, 0, 0, e) := by
      rw [hornbeamref12_Sum.l1, if_pos (by omega), if_pos (by omega), if_pos (by omega), wrap64_id (n := x11 * C) (by omega) (by omega), wrap64_id (n := x11 * C + (i : Int)) (by omega) (by omega), if_pos (by omega), if_pos (by omega), hq k (by omega), Option.bind_some, wrap64_id (n := (i : Int) + 1) (by omega) (by omega)]
    rw [ea, eb]
    by_cases he : e = 0
    · simp only [if_pos he]
      exact both_l1 ⟨⟨b0, b1⟩, hR'⟩ h3 h4 t x11 x0 x1 n hC Kd hKd ic is_ iq IH m (i + 1) k _ (by omega) (by omega) (by simpa using h9) (fun x hx => by
        rcases List.mem_or_eq_of_mem_set hx with h | h
        · exact i9 x h
        · rw [h]; exact iy)
    · simp only [if_neg he]
      exact ⟨_, rfl, ⟨in0, in0, in0⟩, rfl⟩
theorem both_l0 {K B C : Int} {l3 : List Int} {l4 : List S54} (hR : Rt K B C l3 l4) (h3 : ∀ x ∈ l3, InI x) (h4 : ∀ m ∈ l4, InI m.f0 ∧ InI m.f1 ∧ InI m.f2) (t : Int) (t1 : t ≤ B) (n : Nat) (hC : (n : Int) = C) :
    ∀ (d k : Nat) (x11 : Int) (x9 : List Int) (c s q : Int), x11 + d = t → 0 ≤ x11 → d * (n + 3) + 10300 < k → x9.length = n → (∀ x ∈ x9, InI x) → InI c → InI s → InI q → ∃ r, hist_Sum.l0 k t x9 x11 K B C l3 l4 c s q = some r ∧ Good r ∧ hornbeamref12_Sum.l0 k t x9 x11 K B C l3 l4 c s q = some r
  | 0, k + 1, x11, x9, c, s, q, h, _, _, _, _, ic, is_, iq => by
    rw [hist_Sum.l0, hornbeamref12_Sum.l0]
    simp only [if_neg (show ¬ x11 < t by omega)]
    exact ⟨_, rfl, ⟨ic, is_, iq⟩, rfl⟩
  | d + 1, k + 1, x11, x9, c, s, q, h, x0, hk, h9, i9, ic, is_, iq => by
    have hb := hR.1
    rw [Nat.succ_mul] at hk
    rw [hist_Sum.l0, hornbeamref12_Sum.l0]
    simp only [if_pos (show x11 < t by omega), h9]
    exact both_l1 hR h3 h4 t x11 x0 (by omega) n hC (d * (n + 3) + 10300) (by omega) ic is_ iq (fun k x9 c s q hk h9 i9 ic is_ iq => by
      rw [wrap64_id (by omega) (by omega)]
      exact both_l0 hR h3 h4 t t1 n hC d k (x11 + 1) x9 c s q (by omega) (by omega) hk h9 i9 ic is_ iq) n 0 k x9 (by omega) (by omega) h9 i9
theorem sum_both {K B C : Int} {l3 : List Int} {l4 : List S54} (hR : Rt K B C l3 l4) (h3 : ∀ x ∈ l3, InI x) (h4 : ∀ m ∈ l4, InI m.f0 ∧ InI m.f1 ∧ InI m.f2) (f t : Int) (f0 : 0 ≤ f) (ft : f ≤ t) (t1 : t ≤ B) :
    ∃ cs c s q e, (∀ k, 90000 ≤ k → hist_Sum.f k K B C l3 l4 f t = some (cs, c, s, q, e)) ∧ InI c ∧ InI s ∧ InI q ∧ ∀ k, 90000 ≤ k → hornbeamref12_Sum.f k K B C l3 l4 f t = some (cs, c, s, q, e) := by
  obtain ⟨r, hr, hiff⟩ := right_f K B C l3 l4
  obtain ⟨r', hr', hiff'⟩ := rright_f 90000 (by omega) K B C l3 l4
  have hb := hR.1
  have go : ∃ r, hist_Sum.f 90000 K B C l3 l4 f t = some r ∧ Good r ∧ hornbeamref12_Sum.f 90000 K B C l3 l4 f t = some r := by
    have hC : 0 ≤ C ∧ C ≤ 256 := by
      rcases hR.2 with h | h <;> omega
    have hd : (t - f).toNat * (C.toNat + 3) ≤ 257 * 259 := Nat.mul_le_mul (by omega) (by omega)
    have main := both_l0 hR h3 h4 t t1 C.toNat (by omega) (t - f).toNat 89999 f (List.replicate C.toNat 0) 0 0 0 (by omega) f0 (by omega) (by simp) (fun x hx => by rw [List.eq_of_mem_replicate hx]; exact in0) in0 in0 in0
    have eb : hornbeamref12_Sum.f 90000 K B C l3 l4 f t = hornbeamref12_Sum.l0 89999 t (List.replicate C.toNat 0) f K B C l3 l4 0 0 0 := by
      unfold hornbeamref12_Sum.f
      rw [hr', hiff'.2 hR, Option.bind_some, if_pos rfl, if_neg (by omega), if_neg (by omega), decide_eq_false (by omega), hornbeamref12_Sum.j0, if_neg (by decide), if_pos (by omega), if_pos (by omega)]
    have ea : hist_Sum.f 90000 K B C l3 l4 f t = hist_Sum.l0 89999 t (List.replicate C.toNat 0) f K B C l3 l4 0 0 0 := by
      unfold hist_Sum.f
      rw [hr, hiff.2 hR, Option.bind_some, if_pos rfl, if_neg (by omega), if_neg (by omega), if_neg (by omega)]
      by_cases hK : K = 0
      · rw [if_pos hK, if_pos (by omega), if_pos (by omega), hist_Sum.j0]
      · have hC0 : C = 0 := by
          rcases hR.2 with h | h
          · exact absurd h.1 hK
          · exact h.2.1
        rw [if_neg hK, hist_Sum.j0, hC0]; rfl
    rw [ea, eb]; exact main
  obtain ⟨⟨cs, c, s, q, e⟩, hgo, ⟨g1, g2, g3⟩, hgr⟩ := go
  exact ⟨cs, c, s, q, e, fun k hk => at_rounds (g := fun k => hist_Sum.f k K B C l3 l4 f t) (hist_Sum.mono _ _ _ _ _ _ _) hk hgo, g1, g2, g3, fun k hk => at_rounds (g := fun k => hornbeamref12_Sum.f k K B C l3 l4 f t) (hornbeamref12_Sum.mono _ _ _ _ _ _ _) hk hgr⟩
theorem csize_l (l : List Int) (hl : l.length ≤ 256) (h : ∀ x ∈ l, 0 ≤ x) : ∀ (m i k : Nat) (s : Int), i + m = l.length → m < k → 0 ≤ s → s + S1 (l.drop i) ≤ 1048576 → split_classes_size.l0 k s l (l.length : Int) (i : Int) = some (s + S1 (l.drop i))
  | 0, i, k + 1, s, h0, _, _, _ => by
    rw [split_classes_size.l0, if_neg (by omega), List.drop_eq_nil_of_le (by omega)]
    simp [S1]
  | m + 1, i, k + 1, s, h0, hk, s0, s1 => by
    have hx : 0 ≤ l[i]'(by omega) := h _ (List.getElem_mem _)
    have hd := Gi.S1_nonneg (l := l.drop (i + 1)) (fun x hx => h x (List.mem_of_mem_drop hx))
    rw [List.drop_eq_getElem_cons (by omega : i < l.length), S1] at s1 ⊢
    rw [split_classes_size.l0, if_pos (by omega), if_pos (by omega), if_pos (by omega), rd_nat, show l.getD i 0 = l[i]'(by omega) by simp [List.getD, show i < l.length by omega], wrap64_id (n := s + l[i]'(by omega)) (by omega) (by omega), wrap64_id (n := (i : Int) + 1) (by omega) (by omega)]
    have := csize_l l hl h m (i + 1) k (s + l[i]'(by omega)) (by omega) (by omega) (by omega) (by omega)
    rw [show ((i + 1 : Nat) : Int) = (i : Int) + 1 by omega] at this
    rw [this]
    congr 1
    omega
def sizeC (l : List Int) : Int := if Gi.MayG l then S1 l else 0
theorem csize_f (l : List Int) (k : Nat) (hk : 300 ≤ k) : split_classes_size.f k l = some (sizeC l) := by
  unfold split_classes_size.f sizeC
  rw [Gi.may_f l k hk, Option.bind_some]
  by_cases h : Gi.MayG l
  · rw [decide_eq_true h, if_pos rfl, if_pos h]
    have := csize_l l h.2.1 h.2.2.1 l.length 0 k 0 (by omega) (by have := h.2.1; omega) (Int.le_refl _) (by simpa using h.2.2.2)
    rw [show ((0 : Nat) : Int) = 0 from rfl] at this
    rw [this]; simp
  · rw [decide_eq_false h, if_neg (by decide), if_neg h]
def sizeM (c s q : Int) : Int := if Sp.MayP c s q then c else 0
theorem msize_f (k : Nat) (hk : 10 ≤ k) {c s q : Int} (hc : InI c) (hs : InI s) (hq : InI q) : split_means_size.f k c s q = some (sizeM c s q) := by
  unfold split_means_size.f sizeM
  rw [Sp.may_f k hk hc hs hq, Option.bind_some]
  by_cases h : Sp.MayP c s q
  · rw [decide_eq_true h, if_pos rfl, if_pos h]
  · rw [decide_eq_false h, if_neg (by decide), if_neg h]
/-- A fraction's three numbers are of 64 bits. -/
def InF (f : Int × Int × Int) : Prop := (0 ≤ f.1 ∧ f.1 < 18446744073709551616) ∧ (0 ≤ f.2.1 ∧ f.2.1 < 18446744073709551616) ∧ (0 ≤ f.2.2 ∧ f.2.2 < 18446744073709551616)
theorem inF0 : InF (0, 0, 0) := by unfold InF; dsimp only; omega
def fc (f g : Int × Int × Int) : Int := Fr.FC (f.1 * 18446744073709551616 + f.2.1) f.2.2 (g.1 * 18446744073709551616 + g.2.1) g.2.2
theorem fc_f (k : Nat) (hk : 1 ≤ k) {f g : Int × Int × Int} (hf : InF f) (hg : InF g) : frac_Cmp.f k f.1 f.2.1 f.2.2 g.1 g.2.1 g.2.2 = some (fc f g) := Fr.fcmp_f k hk hf.1.1 hf.1.2 hf.2.1.1 hf.2.1.2 hf.2.2.1 hf.2.2.2 hg.1.1 hg.1.2 hg.2.1.1 hg.2.1.2 hg.2.2.1 hg.2.2.2
theorem inF_aloneC (l : List Int) : InF (Gi.aloneD l) := by
  unfold Gi.aloneD
  split
  · rename_i h
    have h2 := Gi.S2_small h.1
    have h1 := Gi.S1_nonneg h.1.2.2.1
    have h3 := h.1.2.2.2
    unfold InF; dsimp only; omega
  · exact inF0
theorem inF_scoreC (a b : List Int) : InF (Gi.scoreD a b) := by
  unfold Gi.scoreD
  split
  · rename_i h
    obtain ⟨u1, u2, u3⟩ := Gi.upper_bound h
    unfold InF Gi.upper; dsimp only; omega
  · exact inF0
def aloneM (c s q : Int) : Int × Int × Int := if 0 < c ∧ Sp.MayP c s q then ((Sp.wideD (s * s)).1, (Sp.wideD (s * s)).2, c) else (0, 0, 0)
def scoreM (c s q c2 s2 q2 : Int) : Int × Int × Int := if (0 < c ∧ Sp.MayP c s q) ∧ (0 < c2 ∧ Sp.MayP c2 s2 q2) then ((Sp.wideD (s * s * c2 + s2 * s2 * c)).1, (Sp.wideD (s * s * c2 + s2 * s2 * c)).2, c * c2) else (0, 0, 0)
theorem inF_aloneM (c s q : Int) : InF (aloneM c s q) := by
  unfold aloneM
  split
  · rename_i h
    obtain ⟨h1, h2, h3⟩ := Sp.there_bound h
    have := h.1
    unfold InF Sp.wideD; dsimp only; omega
  · exact inF0
theorem inF_scoreM (c s q c2 s2 q2 : Int) : InF (scoreM c s q c2 s2 q2) := by
  unfold scoreM
  split
  · rename_i h
    obtain ⟨h1, h2, h3⟩ := Sp.there_bound h.1
    obtain ⟨g1, g2, g3⟩ := Sp.there_bound h.2
    have p1 := h.1.1
    have p2 := h.2.1
    have a0 : 0 ≤ s * s * c2 := Int.mul_nonneg h2 (by omega)
    have a1 : s * s * c2 ≤ 1208925819614629174706176 * 1048576 := Int.mul_le_mul h3 g1 (by omega) (by decide)
    have b0 : 0 ≤ s2 * s2 * c := Int.mul_nonneg g2 (by omega)
    have b1 : s2 * s2 * c ≤ 1208925819614629174706176 * 1048576 := Int.mul_le_mul g3 h1 (by omega) (by decide)
    have d0 : 0 ≤ c * c2 := Int.mul_nonneg (by omega) (by omega)
    have d1 : c * c2 ≤ 1048576 * 1048576 := Int.mul_le_mul h1 g1 (by omega) (by decide)
    unfold InF Sp.wideD; dsimp only; omega
  · exact inF0
theorem fixed_f (k : Nat) (hk : 60 ≤ k) : hornbeamlaw16_fixed.f k = some true := at_rounds (g := fun k => hornbeamlaw16_fixed.f k) hornbeamlaw16_fixed.mono hk (by decide +kernel)
theorem rfc (k : Nat) (hk : 10310 ≤ k) {f g : Int × Int × Int} (hf : InF f) (hg : InF g) : hornbeamref05_Cmp.f k f.1 f.2.1 f.2.2 g.1 g.2.1 g.2.2 = some (fc f g) := Fr.rfc_f k hk hf.1.1 hf.1.2 hf.2.1.1 hf.2.1.2 hf.2.2.1 hf.2.2.2 hg.1.1 hg.1.2 hg.2.1.1 hg.2.1.2 hg.2.2.1 hg.2.2.2
theorem bothC {K B C : Int} {c3 : List Int} {c4 : List S54} (h3 : ∀ x ∈ c3, InI x) (h4 : ∀ m ∈ c4, InI m.f0 ∧ InI m.f1 ∧ InI m.f2) (hK : K = 0) (hR : Rt K B C c3 c4) (bin leaf : Int) (g0 : 0 ≤ bin) (g1 : bin < B - 1) (hl : 1 ≤ leaf) (il : InI leaf) (k : Nat) (hk : 100000 ≤ k) :
    ∃ v, split_CutC.f (k + 2) K B C c3 c4 bin leaf = some v ∧ hornbeamref16_Cut.f (k + 2) K B C c3 c4 bin leaf = some v ∧ (v.2.2.2 = true → InF (v.1, v.2.1, v.2.2.1)) := by
  obtain ⟨r, hr, hiff⟩ := right_f K B C c3 c4
  obtain ⟨r', rr, hiff'⟩ := rright_f (k + 2) (by omega) K B C c3 c4
  have : r = true := hiff.2 hR
  subst this
  have : r' = true := hiff'.2 hR
  subst this
  have hb := hR.1
  have b0 : ¬ bin < 0 := by omega
  have wb : wrap64 (B - 1) = B - 1 := wrap64_id (by omega) (by omega)
  have b1 : ¬ bin ≥ B - 1 := by omega
  have wn : wrap64 (bin + 1) = bin + 1 := wrap64_id (by omega) (by omega)
  obtain ⟨a, a1, a2, a3, ea, Ha, ia1, ia2, ia3, Ga⟩ := sum_both hR h3 h4 0 B (by omega) (by omega) (by omega)
  obtain ⟨l, l1, l2, l3, el, Hl, il1, il2, il3, Gl⟩ := sum_both hR h3 h4 0 (bin + 1) (by omega) (by omega) (by omega)
  obtain ⟨r, r1, r2, r3, er, Hr, ir1, ir2, ir3, Gr⟩ := sum_both hR h3 h4 (bin + 1) B (by omega) (by omega) (by omega)
  have hA : ∀ k, 90000 ≤ k → split_binsC.f k K B C c3 c4 0 B = some (a, ea == 0) := fun k hk => by unfold split_binsC.f; rw [Ha k hk, Option.bind_some]
  have hL : ∀ k, 90000 ≤ k → split_binsC.f k K B C c3 c4 0 (bin + 1) = some (l, el == 0) := fun k hk => by unfold split_binsC.f; rw [Hl k hk, Option.bind_some]
  have hS : ∀ k, 90000 ≤ k → split_binsC.f k K B C c3 c4 (bin + 1) B = some (r, er == 0) := fun k hk => by unfold split_binsC.f; rw [Hr k hk, Option.bind_some]
  refine ⟨if ((ea == 0) && ((el == 0) && ((er == 0) && (((Gi.scoreD l r).2.2 != 0) && decide (0 < fc (Gi.scoreD l r) (Gi.aloneD a)))))) = true ∧ leaf ≤ sizeC l ∧ leaf ≤ sizeC r then ((Gi.scoreD l r).1, (Gi.scoreD l r).2.1, (Gi.scoreD l r).2.2, true) else (0, 0, 0, false), ?_, ?_, ?_⟩
  · generalize hk2 : k + 2 = k at *
    have hk : 90000 ≤ k := by omega
    clear hk2
    have e1 : split_classes_score.f k l r = some (Gi.scoreD l r) := by unfold split_classes_score.f; rw [Gi.score_f l r k (by omega), Option.bind_some]
    have e2 : split_classes_alone.f k a = some (Gi.aloneD a) := by unfold split_classes_alone.f; rw [Gi.alone_f a k (by omega), Option.bind_some]
    have e3 := fc_f k (by omega) (inF_scoreC l r) (inF_aloneC a)
    unfold split_CutC.f
    rw [hr, Option.bind_some, if_pos rfl, if_neg b0, wb, if_neg b1, if_neg (by omega), hA k hk, Option.bind_some, wn, hL k hk, Option.bind_some, hS k hk, Option.bind_some]
    dsimp only
    cases h1 : (ea == 0)
    · rw [if_neg (by decide), if_neg (fun z => by simpa using z.1)]
    rw [if_pos rfl]
    cases h2 : (el == 0)
    · rw [if_neg (by decide), if_neg (fun z => by simpa using z.1)]
    rw [if_pos rfl]
    cases h5 : (er == 0)
    · rw [if_neg (by decide), if_neg (fun z => by simpa using z.1)]
    rw [if_pos rfl, csize_f l k (by omega), Option.bind_some]
    by_cases x1 : sizeC l < leaf
    · rw [if_pos x1, if_neg (fun z => by have := z.2.1; omega)]
    rw [if_neg x1, csize_f r k (by omega), Option.bind_some]
    by_cases x2 : sizeC r < leaf
    · rw [if_pos x2, if_neg (fun z => by have := z.2.2; omega)]
    rw [if_neg x2, e1, Option.bind_some, Fr.right_f, Option.bind_some]
    cases h6 : ((Gi.scoreD l r).2.2 != 0)
    · rw [if_neg (by decide), if_neg (fun z => by simpa using z.1)]
    rw [if_pos rfl, e2, Option.bind_some, e3, Option.bind_some]
    by_cases x3 : fc (Gi.scoreD l r) (Gi.aloneD a) ≤ 0
    · rw [if_pos x3, if_neg (fun z => by have := z.1; simp at this; omega)]
    · rw [if_neg x3, if_pos ⟨by simp; omega, by omega, by omega⟩]
  · have no : ∀ (h : ¬ (((ea == 0) && ((el == 0) && ((er == 0) && (((Gi.scoreD l r).2.2 != 0) && decide (0 < fc (Gi.scoreD l r) (Gi.aloneD a)))))) = true ∧ leaf ≤ sizeC l ∧ leaf ≤ sizeC r)), some ((0 : Int), (0 : Int), (0 : Int), false) = some (if ((ea == 0) && ((el == 0) && ((er == 0) && (((Gi.scoreD l r).2.2 != 0) && decide (0 < fc (Gi.scoreD l r) (Gi.aloneD a)))))) = true ∧ leaf ≤ sizeC l ∧ leaf ≤ sizeC r then ((Gi.scoreD l r).1, (Gi.scoreD l r).2.1, (Gi.scoreD l r).2.2, true) else (0, 0, 0, false)) := fun h => by rw [if_neg h]
    have j1t : ∀ m y1 y2 y3 z1 z2 z3, hornbeamref16_Cut.j1 (m + 1) true 0 0 0 y1 y2 y3 z1 z2 z3 = some (0, 0, 0, false) := fun m y1 y2 y3 z1 z2 z3 => by rw [hornbeamref16_Cut.j1, if_pos rfl]
    unfold hornbeamref16_Cut.f
    rw [rr, Option.bind_some, if_pos rfl, if_neg b0, wn, if_neg (by omega), decide_eq_false (show ¬ leaf < 1 by omega), hornbeamref16_Cut.j0, if_neg (by decide), wn, Gl (k + 1) (by omega), Option.bind_some]
    dsimp only
    by_cases h2 : el = 0
    · rw [if_pos h2, Gr (k + 1) (by omega), Option.bind_some]
      dsimp only
      by_cases h5 : er = 0
      · rw [if_pos h5, Ga (k + 1) (by omega), Option.bind_some]
        dsimp only
        by_cases h1 : ea = 0
        · rw [if_pos h1, if_pos hK, Gi.rscore_f l r (k + 1) (by omega), Option.bind_some, Gi.ralone_f a (k + 1) (by omega), Option.bind_some]
          by_cases h6 : (Gi.scoreD l r).2.2 = 0
          · rw [if_pos h6, j1t]
            exact no (fun z => by have := z.1; simp [h6] at this)
          rw [if_neg h6]
          obtain ⟨sl, sr⟩ : Gi.MayG l ∧ Gi.MayG r := by
            by_cases hs : Gi.Sides l r
            · exact ⟨hs.1, hs.2.1⟩
            · exact absurd (by unfold Gi.scoreD; rw [if_neg hs]) h6
          have zl : sizeC l = S1 l := by unfold sizeC; rw [if_pos sl]
          have zr : sizeC r = S1 r := by unfold sizeC; rw [if_pos sr]
          rw [Gi.rtotal_f sl (k + 1) (by omega), Option.bind_some, uwrap_id (n := leaf) (by omega) (by have := il.2; omega), Gi.rtotal_f sr (k + 1) (by omega), Option.bind_some, ← zl, ← zr]
          by_cases x1 : sizeC l < leaf
          · rw [if_pos x1, j1t]
            exact no (fun z => by have := z.2.1; omega)
          rw [if_neg x1]
          by_cases x2 : sizeC r < leaf
          · rw [decide_eq_true x2, j1t]
            exact no (fun z => by have := z.2.2; omega)
          rw [decide_eq_false x2, hornbeamref16_Cut.j1, if_neg (by decide), show hornbeamref05_Cmp.f k (Gi.scoreD l r).1 (Gi.scoreD l r).2.1 (Gi.scoreD l r).2.2 (Gi.aloneD a).1 (Gi.aloneD a).2.1 (Gi.aloneD a).2.2 = some (fc (Gi.scoreD l r) (Gi.aloneD a)) from rfc k (by omega) (inF_scoreC l r) (inF_aloneC a), Option.bind_some]
          by_cases x3 : fc (Gi.scoreD l r) (Gi.aloneD a) ≤ 0
          · rw [if_pos x3]
            exact no (fun z => by have := z.1; simp at this; omega)
          · rw [if_neg x3, if_pos ⟨by simp [h1, h2, h5, h6]; omega, by omega, by omega⟩]
        · rw [if_neg h1]
          exact no (fun z => by have := z.1; simp [h1] at this)
      · rw [if_neg h5]
        exact no (fun z => by have := z.1; simp [h5] at this)
    · rw [if_neg h2]
      exact no (fun z => by have := z.1; simp [h2] at this)
  · intro h
    by_cases hc : ((ea == 0) && ((el == 0) && ((er == 0) && (((Gi.scoreD l r).2.2 != 0) && decide (0 < fc (Gi.scoreD l r) (Gi.aloneD a)))))) = true ∧ leaf ≤ sizeC l ∧ leaf ≤ sizeC r
    · rw [if_pos hc]; exact inF_scoreC l r
    · rw [if_neg hc] at h; cases h
theorem bothM {K B C : Int} {c3 : List Int} {c4 : List S54} (h3 : ∀ x ∈ c3, InI x) (h4 : ∀ m ∈ c4, InI m.f0 ∧ InI m.f1 ∧ InI m.f2) (hK : K ≠ 0) (hR : Rt K B C c3 c4) (bin leaf : Int) (g0 : 0 ≤ bin) (g1 : bin < B - 1) (hl : 1 ≤ leaf) (_il : InI leaf) (k : Nat) (hk : 100000 ≤ k) :
    ∃ v, split_CutM.f (k + 2) K B C c3 c4 bin leaf = some v ∧ hornbeamref16_Cut.f (k + 2) K B C c3 c4 bin leaf = some v ∧ (v.2.2.2 = true → InF (v.1, v.2.1, v.2.2.1)) := by
  obtain ⟨r, hr, hiff⟩ := right_f K B C c3 c4
  obtain ⟨r', rr, hiff'⟩ := rright_f (k + 2) (by omega) K B C c3 c4
  have : r = true := hiff.2 hR
  subst this
  have : r' = true := hiff'.2 hR
  subst this
  have hb := hR.1
  have b0 : ¬ bin < 0 := by omega
  have wb : wrap64 (B - 1) = B - 1 := wrap64_id (by omega) (by omega)
  have b1 : ¬ bin ≥ B - 1 := by omega
  have wn : wrap64 (bin + 1) = bin + 1 := wrap64_id (by omega) (by omega)
  obtain ⟨a, a1, a2, a3, ea, Ha, ia1, ia2, ia3, Ga⟩ := sum_both hR h3 h4 0 B (by omega) (by omega) (by omega)
  obtain ⟨l, l1, l2, l3, el, Hl, il1, il2, il3, Gl⟩ := sum_both hR h3 h4 0 (bin + 1) (by omega) (by omega) (by omega)
  obtain ⟨r, r1, r2, r3, er, Hr, ir1, ir2, ir3, Gr⟩ := sum_both hR h3 h4 (bin + 1) B (by omega) (by omega) (by omega)
  have hA : ∀ k, 90000 ≤ k → split_binsM.f k K B C c3 c4 0 B = some (a1, a2, a3, ea == 0) := fun k hk => by unfold split_binsM.f; rw [Ha k hk, Option.bind_some]
  have hL : ∀ k, 90000 ≤ k → split_binsM.f k K B C c3 c4 0 (bin + 1) = some (l1, l2, l3, el == 0) := fun k hk => by unfold split_binsM.f; rw [Hl k hk, Option.bind_some]
  have hS : ∀ k, 90000 ≤ k → split_binsM.f k K B C c3 c4 (bin + 1) B = some (r1, r2, r3, er == 0) := fun k hk => by unfold split_binsM.f; rw [Hr k hk, Option.bind_some]
  refine ⟨if ((ea == 0) && ((el == 0) && ((er == 0) && (((scoreM l1 l2 l3 r1 r2 r3).2.2 != 0) && decide (0 < fc (scoreM l1 l2 l3 r1 r2 r3) (aloneM a1 a2 a3)))))) = true ∧ leaf ≤ sizeM l1 l2 l3 ∧ leaf ≤ sizeM r1 r2 r3 then ((scoreM l1 l2 l3 r1 r2 r3).1, (scoreM l1 l2 l3 r1 r2 r3).2.1, (scoreM l1 l2 l3 r1 r2 r3).2.2, true) else (0, 0, 0, false), ?_, ?_, ?_⟩
  · generalize hk2 : k + 2 = k at *
    have hk : 90000 ≤ k := by omega
    clear hk2
    have e1 : split_means_score.f k l1 l2 l3 r1 r2 r3 = some (scoreM l1 l2 l3 r1 r2 r3) := by unfold split_means_score.f; rw [Sp.score_f k (by omega) il1 il2 il3 ir1 ir2 ir3, Option.bind_some]; rfl
    have e2 : split_means_alone.f k a1 a2 a3 = some (aloneM a1 a2 a3) := by unfold split_means_alone.f; rw [Sp.alone_f k (by omega) ia1 ia2 ia3, Option.bind_some]; rfl
    have e3 := fc_f k (by omega) (inF_scoreM l1 l2 l3 r1 r2 r3) (inF_aloneM a1 a2 a3)
    unfold split_CutM.f
    rw [hr, Option.bind_some, if_pos rfl, if_neg b0, wb, if_neg b1, if_neg (by omega), hA k hk, Option.bind_some, wn, hL k hk, Option.bind_some, hS k hk, Option.bind_some]
    dsimp only
    cases h1 : (ea == 0)
    · rw [if_neg (by decide), if_neg (fun z => by simpa using z.1)]
    rw [if_pos rfl]
    cases h2 : (el == 0)
    · rw [if_neg (by decide), if_neg (fun z => by simpa using z.1)]
    rw [if_pos rfl]
    cases h5 : (er == 0)
    · rw [if_neg (by decide), if_neg (fun z => by simpa using z.1)]
    rw [if_pos rfl, msize_f k (by omega) il1 il2 il3, Option.bind_some]
    by_cases x1 : sizeM l1 l2 l3 < leaf
    · rw [if_pos x1, if_neg (fun z => by have := z.2.1; omega)]
    rw [if_neg x1, msize_f k (by omega) ir1 ir2 ir3, Option.bind_some]
    by_cases x2 : sizeM r1 r2 r3 < leaf
    · rw [if_pos x2, if_neg (fun z => by have := z.2.2; omega)]
    rw [if_neg x2, e1, Option.bind_some, Fr.right_f, Option.bind_some]
    cases h6 : ((scoreM l1 l2 l3 r1 r2 r3).2.2 != 0)
    · rw [if_neg (by decide), if_neg (fun z => by simpa using z.1)]
    rw [if_pos rfl, e2, Option.bind_some, e3, Option.bind_some]
    by_cases x3 : fc (scoreM l1 l2 l3 r1 r2 r3) (aloneM a1 a2 a3) ≤ 0
    · rw [if_pos x3, if_neg (fun z => by have := z.1; simp at this; omega)]
    · rw [if_neg x3, if_pos ⟨by simp; omega, by omega, by omega⟩]
  · have no : ∀ (h : ¬ (((ea == 0) && ((el == 0) && ((er == 0) && (((scoreM l1 l2 l3 r1 r2 r3).2.2 != 0) && decide (0 < fc (scoreM l1 l2 l3 r1 r2 r3) (aloneM a1 a2 a3)))))) = true ∧ leaf ≤ sizeM l1 l2 l3 ∧ leaf ≤ sizeM r1 r2 r3)), some ((0 : Int), (0 : Int), (0 : Int), false) = some (if ((ea == 0) && ((el == 0) && ((er == 0) && (((scoreM l1 l2 l3 r1 r2 r3).2.2 != 0) && decide (0 < fc (scoreM l1 l2 l3 r1 r2 r3) (aloneM a1 a2 a3)))))) = true ∧ leaf ≤ sizeM l1 l2 l3 ∧ leaf ≤ sizeM r1 r2 r3 then ((scoreM l1 l2 l3 r1 r2 r3).1, (scoreM l1 l2 l3 r1 r2 r3).2.1, (scoreM l1 l2 l3 r1 r2 r3).2.2, true) else (0, 0, 0, false)) := fun h => by rw [if_neg h]
    have j1t : ∀ m y1 y2 y3 z1 z2 z3, hornbeamref16_Cut.j2 (m + 1) true 0 0 0 y1 y2 y3 z1 z2 z3 = some (0, 0, 0, false) := fun m y1 y2 y3 z1 z2 z3 => by rw [hornbeamref16_Cut.j2, if_pos rfl]
    unfold hornbeamref16_Cut.f
    rw [rr, Option.bind_some, if_pos rfl, if_neg b0, wn, if_neg (by omega), decide_eq_false (show ¬ leaf < 1 by omega), hornbeamref16_Cut.j0, if_neg (by decide), wn, Gl (k + 1) (by omega), Option.bind_some]
    dsimp only
    by_cases h2 : el = 0
    · rw [if_pos h2, Gr (k + 1) (by omega), Option.bind_some]
      dsimp only
      by_cases h5 : er = 0
      · rw [if_pos h5, Ga (k + 1) (by omega), Option.bind_some]
        dsimp only
        by_cases h1 : ea = 0
        · rw [if_pos h1, if_neg hK, show hornbeamref15_Score.f (k + 1) l1 l2 l3 r1 r2 r3 = some (scoreM l1 l2 l3 r1 r2 r3) from Sp.rscore_f (k + 1) (by omega) il1 il2 il3 ir1 ir2 ir3, Option.bind_some, show hornbeamref15_Alone.f (k + 1) a1 a2 a3 = some (aloneM a1 a2 a3) from Sp.ralone_f (k + 1) (by omega) ia1 ia2 ia3, Option.bind_some]
          by_cases h6 : (scoreM l1 l2 l3 r1 r2 r3).2.2 = 0
          · rw [if_pos h6, j1t]
            exact no (fun z => by have := z.1; simp [h6] at this)
          rw [if_neg h6]
          obtain ⟨sl, sr⟩ : Sp.MayP l1 l2 l3 ∧ Sp.MayP r1 r2 r3 := by
            by_cases hs : (0 < l1 ∧ Sp.MayP l1 l2 l3) ∧ (0 < r1 ∧ Sp.MayP r1 r2 r3)
            · exact ⟨hs.1.2, hs.2.2⟩
            · exact absurd (by unfold scoreM; rw [if_neg hs]) h6
          have zl : sizeM l1 l2 l3 = l1 := by unfold sizeM; rw [if_pos sl]
          have zr : sizeM r1 r2 r3 = r1 := by unfold sizeM; rw [if_pos sr]
          by_cases x1 : sizeM l1 l2 l3 < leaf
          · rw [if_pos (show l1 < leaf by omega), j1t]
            exact no (fun z => by have := z.2.1; omega)
          rw [if_neg (show ¬ l1 < leaf by omega)]
          by_cases x2 : sizeM r1 r2 r3 < leaf
          · rw [decide_eq_true (show r1 < leaf by omega), j1t]
            exact no (fun z => by have := z.2.2; omega)
          rw [decide_eq_false (show ¬ r1 < leaf by omega), hornbeamref16_Cut.j2, if_neg (by decide), show hornbeamref05_Cmp.f k (scoreM l1 l2 l3 r1 r2 r3).1 (scoreM l1 l2 l3 r1 r2 r3).2.1 (scoreM l1 l2 l3 r1 r2 r3).2.2 (aloneM a1 a2 a3).1 (aloneM a1 a2 a3).2.1 (aloneM a1 a2 a3).2.2 = some (fc (scoreM l1 l2 l3 r1 r2 r3) (aloneM a1 a2 a3)) from rfc k (by omega) (inF_scoreM l1 l2 l3 r1 r2 r3) (inF_aloneM a1 a2 a3), Option.bind_some]
          by_cases x3 : fc (scoreM l1 l2 l3 r1 r2 r3) (aloneM a1 a2 a3) ≤ 0
          · rw [if_pos x3]
            exact no (fun z => by have := z.1; simp at this; omega)
          · rw [if_neg x3, if_pos ⟨by simp [h1, h2, h5, h6]; omega, by omega, by omega⟩]
        · rw [if_neg h1]
          exact no (fun z => by have := z.1; simp [h1] at this)
      · rw [if_neg h5]
        exact no (fun z => by have := z.1; simp [h5] at this)
    · rw [if_neg h2]
      exact no (fun z => by have := z.1; simp [h2] at this)
  · intro h
    by_cases hc : ((ea == 0) && ((el == 0) && ((er == 0) && (((scoreM l1 l2 l3 r1 r2 r3).2.2 != 0) && decide (0 < fc (scoreM l1 l2 l3 r1 r2 r3) (aloneM a1 a2 a3)))))) = true ∧ leaf ≤ sizeM l1 l2 l3 ∧ leaf ≤ sizeM r1 r2 r3
    · rw [if_pos hc]; exact inF_scoreM l1 l2 l3 r1 r2 r3
    · rw [if_neg hc] at h; cases h
/-- What a cut of a histogram answers. -/
def cutV (h : S25) (bin leaf : Int) : Int × Int × Int × Bool := (split_Cut.f 100002 h.f0 h.f1 h.f2 h.f3 h.f4 bin leaf).getD (0, 0, 0, false)
def Wf (h : S25) : Prop := InI h.f1 ∧ (∀ x ∈ h.f3, InI x) ∧ (∀ m ∈ h.f4, InI m.f0 ∧ InI m.f1 ∧ InI m.f2)
def RtH (h : S25) : Prop := Rt h.f0 h.f1 h.f2 h.f3 h.f4
def frD (c : Int × Int × Int × Bool) : Int × Int × Int := (c.1, c.2.1, c.2.2.1)
theorem cutV_f {h : S25} (hw : Wf h) (hR : RtH h) {bin leaf : Int} (b0 : 0 ≤ bin) (b1 : bin < h.f1 - 1) (hl : 1 ≤ leaf) (il : InI leaf) : (∀ k, 100002 ≤ k → split_Cut.f k h.f0 h.f1 h.f2 h.f3 h.f4 bin leaf = some (cutV h bin leaf)) ∧ (∀ k, 100002 ≤ k → hornbeamref16_Cut.f k h.f0 h.f1 h.f2 h.f3 h.f4 bin leaf = some (cutV h bin leaf)) ∧ ((cutV h bin leaf).2.2.2 = true → InF (frD (cutV h bin leaf))) := by
  obtain ⟨v, hv, hr, hI⟩ : ∃ v, split_Cut.f 100002 h.f0 h.f1 h.f2 h.f3 h.f4 bin leaf = some v ∧ hornbeamref16_Cut.f 100002 h.f0 h.f1 h.f2 h.f3 h.f4 bin leaf = some v ∧ (v.2.2.2 = true → InF (frD v)) := by
    unfold split_Cut.f
    by_cases hK : h.f0 = 0
    · rw [if_pos hK]
      exact bothC hw.2.1 hw.2.2 hK hR bin leaf b0 b1 hl il 100000 (by omega)
    · rw [if_neg hK]
      exact bothM hw.2.1 hw.2.2 hK hR bin leaf b0 b1 hl il 100000 (by omega)
  have e : cutV h bin leaf = v := by unfold cutV; rw [hv]; rfl
  rw [e]
  exact ⟨fun k hk => at_rounds (g := fun k => split_Cut.f k h.f0 h.f1 h.f2 h.f3 h.f4 bin leaf) (split_Cut.mono _ _ _ _ _ _ _) hk hv, fun k hk => at_rounds (g := fun k => hornbeamref16_Cut.f k h.f0 h.f1 h.f2 h.f3 h.f4 bin leaf) (hornbeamref16_Cut.mono _ _ _ _ _ _ _) hk hr, hI⟩
theorem fc_anti (f g : Int × Int × Int) : fc g f = -fc f g := Fr.FC_anti _ _ _ _
theorem fc_le {c o p : Int × Int × Int} (hc : InF c) (ho : InF o) (hp : InF p) (h1 : fc c o ≤ 0) (h2 : 0 ≤ fc p o) : fc c p ≤ 0 := by
  have h3 := fc_anti p o
  exact Fr.FC_chain _ _ _ _ _ _ hc.2.2.1 ho.2.2.1 hp.2.2.1 h1 (show fc o p ≤ 0 by omega)
theorem fc_up {c o p : Int × Int × Int} (hc : InF c) (ho : InF o) (hp : InF p) (h1 : fc c o ≤ 0) (h2 : 0 < fc p o) : fc c p < 0 := by
  have h3 := fc_anti c p
  by_cases h : fc c p < 0
  · exact h
  · have : fc p o ≤ 0 := Fr.FC_chain _ _ _ _ _ _ hp.2.2.1 hc.2.2.1 ho.2.2.1 (show fc p c ≤ 0 by omega) h1
    omega
theorem wf_rd {l : List S25} (hw : ∀ h ∈ l, Wf h) (j : Int) : Wf (rd_T25 l j) := by
  unfold rd_T25
  by_cases hj : j.toNat < l.length
  · rw [show l.getD j.toNat z25 = l[j.toNat] by simp [List.getD, hj]]; exact hw _ (List.getElem_mem _)
  · rw [show l.getD j.toNat z25 = z25 by simp [List.getD, List.getElem?_eq_none (by omega : l.length ≤ j.toNat)]]
    exact ⟨in0, fun x hx => (by cases hx), fun m hm => (by cases hm)⟩
theorem great_l (l : List S25) : ∀ (m i k : Nat), i + m = l.length → m < k → l.length ≤ 8 → ∃ r, hornbeamlaw16_great.l0 k l (l.length : Int) (i : Int) = some r
  | 0, i, k + 1, h, _, _ => by rw [hornbeamlaw16_great.l0, if_neg (by omega)]; exact ⟨_, rfl⟩
  | m + 1, i, k + 1, h, hk, h8 => by
    rw [hornbeamlaw16_great.l0, if_pos (by omega), if_pos (by omega), if_pos (by omega), wrap64_id (n := (i : Int) + 1) (by omega) (by omega)]
    split
    · exact ⟨_, rfl⟩
    · split
      · exact ⟨_, rfl⟩
      · exact great_l l m (i + 1) k (by omega) (by omega) h8
theorem great_f (l : List S25) (k : Nat) (hk : 10 ≤ k) : ∃ r, hornbeamlaw16_great.f k l = some r ∧ (r = false → l.length ≤ 8) := by
  unfold hornbeamlaw16_great.f
  by_cases h : (l.length : Int) > 8
  · rw [if_pos h]; exact ⟨_, rfl, fun z => by cases z⟩
  · rw [if_neg h]
    obtain ⟨r, e⟩ := great_l l l.length 0 k (by omega) (by omega) (by omega)
    exact ⟨r, e, fun _ => by omega⟩
/-- A candidate stands ahead of another one. -/
def Bef (j c i b : Int) : Prop := j < i ∨ (j = i ∧ c < b)
def Can (l : List S25) (leaf j c : Int) : Prop := (0 ≤ j ∧ j < (l.length : Int)) ∧ (0 ≤ c ∧ c < (rd_T25 l j).f1 - 1) ∧ (cutV (rd_T25 l j) c leaf).2.2.2 = true
def fr (l : List S25) (leaf j c : Int) : Int × Int × Int := frD (cutV (rd_T25 l j) c leaf)
def Cx (l : List S25) (leaf : Int) : Prop := (∀ h ∈ l, Wf h) ∧ (∀ j : Int, 0 ≤ j → j < (l.length : Int) → RtH (rd_T25 l j)) ∧ 1 ≤ leaf ∧ InI leaf ∧ l.length ≤ 8
/-- The best of those candidates, and the first of these. -/
def Top (l : List S25) (leaf : Int) (S : Int → Int → Prop) (T : Bool) (P bn n1 n2 n3 : Int) : Prop :=
  (T = false ∧ P = 0 ∧ bn = 0 ∧ n1 = 0 ∧ n2 = 0 ∧ n3 = 0 ∧ ∀ j c, S j c → ¬ Can l leaf j c) ∨
  (T = true ∧ S P bn ∧ Can l leaf P bn ∧ fr l leaf P bn = (n1, n2, n3) ∧ ∀ j c, S j c → Can l leaf j c → fc (fr l leaf j c) (n1, n2, n3) ≤ 0 ∧ (Bef j c P bn → fc (fr l leaf j c) (n1, n2, n3) < 0))
section
variable {l : List S25} {leaf : Int} {S S' : Int → Int → Prop} {i b : Int} {T : Bool} {P bn n1 n2 n3 : Int}
theorem can_f (X : Cx l leaf) {j c : Int} (j0 : 0 ≤ j) (j1 : j < (l.length : Int)) (c0 : 0 ≤ c) (c1 : c < (rd_T25 l j).f1 - 1) : (∀ k, 100002 ≤ k → split_Cut.f k (rd_T25 l j).f0 (rd_T25 l j).f1 (rd_T25 l j).f2 (rd_T25 l j).f3 (rd_T25 l j).f4 c leaf = some (cutV (rd_T25 l j) c leaf)) ∧ (∀ k, 100002 ≤ k → hornbeamref16_Cut.f k (rd_T25 l j).f0 (rd_T25 l j).f1 (rd_T25 l j).f2 (rd_T25 l j).f3 (rd_T25 l j).f4 c leaf = some (cutV (rd_T25 l j) c leaf)) ∧ ((cutV (rd_T25 l j) c leaf).2.2.2 = true → InF (frD (cutV (rd_T25 l j) c leaf))) := cutV_f (wf_rd X.1 j) (X.2.1 j j0 j1) c0 c1 X.2.2.1 X.2.2.2.1
theorem can_in (X : Cx l leaf) {j c : Int} (h : Can l leaf j c) : InF (fr l leaf j c) := (can_f X h.1.1 h.1.2 h.2.1.1 h.2.1.2).2.2 h.2.2
theorem skip (h1 : ∀ j c, S' j c → Can l leaf j c → S j c) (h2 : ∀ j c, S j c → S' j c) (I : Top l leaf S T P bn n1 n2 n3) : Top l leaf S' T P bn n1 n2 n3 := by
  rcases I with ⟨a1, a2, a3, a4, a5, a6, a7⟩ | ⟨a1, a2, a3, a4, a5⟩
  · exact .inl ⟨a1, a2, a3, a4, a5, a6, fun j c hs hc => a7 j c (h1 j c hs hc) hc⟩
  · exact .inr ⟨a1, h2 _ _ a2, a3, a4, fun j c hs hc => a5 j c (h1 j c hs hc) hc⟩
theorem keep (h1 : ∀ j c, S' j c → Can l leaf j c → S j c ∨ (j = i ∧ c = b)) (h2 : ∀ j c, S j c → S' j c) (I : Top l leaf S true P bn n1 n2 n3) (h : fc (fr l leaf i b) (n1, n2, n3) ≤ 0) (h3 : S P bn → Bef i b P bn → fc (fr l leaf i b) (n1, n2, n3) < 0) : Top l leaf S' true P bn n1 n2 n3 := by
  rcases I with ⟨a1, _⟩ | ⟨a1, a2, a3, a4, a5⟩
  · cases a1
  · refine .inr ⟨a1, h2 _ _ a2, a3, a4, fun j c hs hc => ?_⟩
    rcases h1 j c hs hc with hs | ⟨rfl, rfl⟩
    · exact a5 j c hs hc
    · exact ⟨h, h3 a2⟩
theorem take (X : Cx l leaf) (h1 : ∀ j c, S' j c → Can l leaf j c → S j c ∨ (j = i ∧ c = b)) (h2 : S' i b) (I : Top l leaf S T P bn n1 n2 n3) (hc : Can l leaf i b) (hn : T = true → 0 < fc (fr l leaf i b) (n1, n2, n3) ∨ (0 ≤ fc (fr l leaf i b) (n1, n2, n3) ∧ ∀ j c, S j c → ¬ Bef j c i b)) : Top l leaf S' true i b (fr l leaf i b).1 (fr l leaf i b).2.1 (fr l leaf i b).2.2 := by
  have hI := can_in X hc
  refine .inr ⟨rfl, h2, hc, rfl, fun j c hs hj => ?_⟩
  rcases h1 j c hs hj with hs | ⟨rfl, rfl⟩
  · rcases I with ⟨a1, a2, a3, a4, a5, a6, a7⟩ | ⟨a1, a2, a3, a4, a5⟩
    · exact absurd hj (a7 j c hs)
    · have hF := can_in X a3
      rw [a4] at hF
      have ho := a5 j c hs hj
      rcases hn a1 with g | ⟨g, g2⟩
      · have := fc_up (can_in X hj) hF hI ho.1 g
        exact ⟨Int.le_of_lt this, fun _ => this⟩
      · exact ⟨fc_le (can_in X hj) hF hI ho.1 g, fun q => absurd q (g2 j c hs)⟩
  · exact ⟨Int.le_of_eq (Fr.FC_refl _ _), fun q => by unfold Bef at q; omega⟩
theorem top_in (X : Cx l leaf) (I : Top l leaf S true P bn n1 n2 n3) : InF (n1, n2, n3) := by
  rcases I with ⟨a1, _⟩ | ⟨a1, a2, a3, a4, a5⟩
  · cases a1
  · rw [← a4]; exact can_in X a3
theorem top_one {T' : Bool} {P' bn' m1 m2 m3 : Int} (h : ∀ j c, Can l leaf j c → S j c) (h' : ∀ j c, Can l leaf j c → S' j c) (I : Top l leaf S T P bn n1 n2 n3) (J : Top l leaf S' T' P' bn' m1 m2 m3) : T = T' ∧ P = P' ∧ bn = bn' ∧ n1 = m1 ∧ n2 = m2 ∧ n3 = m3 := by
  rcases I with ⟨rfl, rfl, rfl, rfl, rfl, rfl, a7⟩ | ⟨rfl, a2, a3, a4, a5⟩
  · rcases J with ⟨rfl, rfl, rfl, rfl, rfl, rfl, _⟩ | ⟨rfl, _, b3, _⟩
    · exact ⟨rfl, rfl, rfl, rfl, rfl, rfl⟩
    · exact absurd b3 (a7 _ _ (h _ _ b3))
  · rcases J with ⟨rfl, rfl, rfl, rfl, rfl, rfl, b7⟩ | ⟨rfl, b2, b3, b4, b5⟩
    · exact absurd a3 (b7 _ _ (h' _ _ a3))
    · have u := a5 P' bn' (h _ _ b3) b3
      have v := b5 P bn (h' _ _ a3) a3
      rw [b4] at u
      rw [a4] at v
      have an := fc_anti (n1, n2, n3) (m1, m2, m3)
      have e : P = P' ∧ bn = bn' := by
        by_cases q : Bef P' bn' P bn
        · have := u.2 q; omega
        · by_cases q2 : Bef P bn P' bn'
          · have := v.2 q2; omega
          · unfold Bef at q q2; omega
      obtain ⟨rfl, rfl⟩ := e
      rw [a4] at b4
      injection b4 with e1 e2
      injection e2 with e2 e3
      exact ⟨rfl, rfl, rfl, e1, e2, e3⟩
end
def St (pl : List Int) (l : List S25) (leaf : Int) (S : Int → Int → Prop) (T : Bool) (F bn n1 n2 n3 : Int) : Prop := ∃ P, Top l leaf S T P bn n1 n2 n3 ∧ F = if T = true then rd pl P else 0
def Done (pl : List Int) (l : List S25) (leaf : Int) (o : Option (Bool × Int × Int × Int × Int × Int × Int)) : Prop := ∃ S T F bn n1 n2 n3, o = some (T, F, bn, n1, n2, n3, 0) ∧ (∀ j c, Can l leaf j c → S j c) ∧ St pl l leaf S T F bn n1 n2 n3
theorem done_one {pl : List Int} {l : List S25} {leaf : Int} {o p : Option (Bool × Int × Int × Int × Int × Int × Int)} (h : Done pl l leaf o) (h' : Done pl l leaf p) : ∃ v, o = some v ∧ p = some v := by
  obtain ⟨S, T, F, bn, n1, n2, n3, rfl, hS, P, I, rfl⟩ := h
  obtain ⟨S', T', F', bn', m1, m2, m3, rfl, hS', P', I', rfl⟩ := h'
  obtain ⟨rfl, rfl, rfl, rfl, rfl, rfl⟩ := top_one hS hS' I I'
  exact ⟨_, rfl, rfl⟩
theorem best_l2 {l : List S25} {leaf : Int} (X : Cx l leaf) (pl : List Int) (hpl : pl.length = l.length) (i : Int) (i0 : 0 ≤ i) (i1 : i < (l.length : Int)) (Kn : Nat) (hKn : 100002 ≤ Kn)
    (next : ∀ k T F bn n1 n2 n3, Kn < k → St pl l leaf (fun j c => Bef j c (i + 1) 0) T F bn n1 n2 n3 → Done pl l leaf (split_Best.l1 k pl leaf l (l.length : Int) (i + 1) T F bn n1 n2 n3)) :
    ∀ (m : Nat) (b : Int) (k : Nat) (T : Bool) (F bn n1 n2 n3 : Int), b + m = (rd_T25 l i).f1 - 1 → 0 ≤ b → Kn + m + 1 < k → St pl l leaf (fun j c => Bef j c i b) T F bn n1 n2 n3 → Done pl l leaf (split_Best.l2 k pl leaf i l (l.length : Int) i ((rd_T25 l i).f1 - 1) b T F bn n1 n2 n3 (rd_T25 l i).f0 (rd_T25 l i).f1 (rd_T25 l i).f2 (rd_T25 l i).f3 (rd_T25 l i).f4)
  | 0, b, k + 1, T, F, bn, n1, n2, n3, h, b0, hk, ⟨P, I, hF⟩ => by
    have h8 := X.2.2.2.2
    rw [split_Best.l2, if_neg (by omega), wrap64_id (n := i + 1) (by omega) (by omega)]
    refine next k _ _ _ _ _ _ (by omega) ⟨P, skip (fun j c (q : Bef j c (i + 1) 0) hc => ?_) (fun j c (q : Bef j c i b) => by unfold Bef at *; omega) I, hF⟩
    show Bef j c i b
    have := hc.2.1
    unfold Bef at *
    by_cases e : j = i
    · subst e; omega
    · omega
  | m + 1, b, k + 1, T, F, bn, n1, n2, n3, h, b0, hk, ⟨P, I, hF⟩ => by
    have h8 := X.2.2.2.2
    have hB := (X.2.1 i i0 i1).1
    have up : ∀ j c, Bef j c i (b + 1) → Can l leaf j c → Bef j c i b ∨ (j = i ∧ c = b) := fun j c q _ => by unfold Bef at *; omega
    have mo : ∀ j c, Bef j c i b → Bef j c i (b + 1) := fun j c q => by unfold Bef at *; omega
    have C := can_f X i0 i1 b0 (show b < (rd_T25 l i).f1 - 1 by omega)
    have rec_ := fun T F bn n1 n2 n3 => best_l2 X pl hpl i i0 i1 Kn hKn next m (b + 1) k T F bn n1 n2 n3 (by omega) (by omega) (by omega)
    rw [split_Best.l2, if_pos (by omega), C.1 k (by omega), Option.bind_some, wrap64_id (n := b + 1) (by omega) (by omega)]
    by_cases ho : (cutV (rd_T25 l i) b leaf).2.2.2 = true
    · have hc : Can l leaf i b := ⟨⟨i0, i1⟩, ⟨b0, by omega⟩, ho⟩
      rw [if_pos ho]
      cases T with
      | false =>
        rw [if_neg (by decide), if_pos i0, if_pos (by omega)]
        exact rec_ _ _ _ _ _ _ ⟨i, take X up (by unfold Bef; omega) I hc (fun h => by cases h), (if_pos rfl).symm⟩
      | true =>
        have e3 : frac_Cmp.f k (cutV (rd_T25 l i) b leaf).1 (cutV (rd_T25 l i) b leaf).2.1 (cutV (rd_T25 l i) b leaf).2.2.1 n1 n2 n3 = some (fc (fr l leaf i b) (n1, n2, n3)) := fc_f k (by omega) (can_in X hc) (top_in X I)
        rw [if_pos rfl, e3, Option.bind_some]
        by_cases g : fc (fr l leaf i b) (n1, n2, n3) > 0
        · rw [if_pos g, if_pos i0, if_pos (by omega)]
          exact rec_ _ _ _ _ _ _ ⟨i, take X up (by unfold Bef; omega) I hc (fun _ => .inl g), (if_pos rfl).symm⟩
        · rw [if_neg g]
          exact rec_ _ _ _ _ _ _ ⟨P, keep up mo I (by omega) (fun (a : Bef P bn i b) (q : Bef i b P bn) => by unfold Bef at a q; omega), hF⟩
    · rw [if_neg ho]
      refine rec_ _ _ _ _ _ _ ⟨P, skip (fun j c q hc => ?_) mo I, hF⟩
      rcases up j c q hc with q | ⟨rfl, rfl⟩
      · exact q
      · exact absurd hc.2.2 ho
theorem best_l1 {l : List S25} {leaf : Int} (X : Cx l leaf) (pl : List Int) (hpl : pl.length = l.length) :
    ∀ (m : Nat) (i : Int) (k : Nat) (T : Bool) (F bn n1 n2 n3 : Int), i + m = (l.length : Int) → 0 ≤ i → 100002 + 300 * m < k → St pl l leaf (fun j c => Bef j c i 0) T F bn n1 n2 n3 → Done pl l leaf (split_Best.l1 k pl leaf l (l.length : Int) i T F bn n1 n2 n3)
  | 0, i, k + 1, T, F, bn, n1, n2, n3, h, i0, hk, I => by
    rw [split_Best.l1, if_neg (by omega)]
    exact ⟨_, _, _, _, _, _, _, rfl, fun j c h => by have := h.1; show Bef j c i 0; unfold Bef; omega, I⟩
  | m + 1, i, k + 1, T, F, bn, n1, n2, n3, h, i0, hk, I => by
    have hB := (X.2.1 i i0 (by omega)).1
    rw [split_Best.l1, if_pos (by omega), if_pos i0, if_pos (by omega), wrap64_id (n := (rd_T25 l i).f1 - 1) (by omega) (by omega)]
    exact best_l2 X pl hpl i i0 (by omega) (100002 + 300 * m) (by omega) (fun k T F bn n1 n2 n3 hk I => best_l1 X pl hpl m (i + 1) k T F bn n1 n2 n3 (by omega) (by omega) hk I) ((rd_T25 l i).f1 - 1).toNat 0 k T F bn n1 n2 n3 (by omega) (Int.le_refl _) (by omega) I
theorem rbest_l2 {l : List S25} {leaf : Int} (X : Cx l leaf) (pl : List Int) (hpl : pl.length = l.length) (i : Int) (i0 : 0 ≤ i) (i1 : i < (l.length : Int)) (Kn : Nat) (hKn : 100002 ≤ Kn)
    (next : ∀ k T F bn n1 n2 n3, Kn < k → St pl l leaf (fun j c => Bef i (-1) j c) T F bn n1 n2 n3 → Done pl l leaf (hornbeamref16_Best.l1 k pl l leaf (i - 1) T F bn n1 n2 n3)) :
    ∀ (m : Nat) (b : Int) (k : Nat) (T : Bool) (F bn n1 n2 n3 : Int), b + 1 = m → b < (rd_T25 l i).f1 - 1 → Kn + m + 1 < k → St pl l leaf (fun j c => Bef i b j c) T F bn n1 n2 n3 → Done pl l leaf (hornbeamref16_Best.l2 k pl l leaf i b T F bn n1 n2 n3)
  | 0, b, k + 1, T, F, bn, n1, n2, n3, h, b0, hk, I => by
    have h8 := X.2.2.2.2
    obtain rfl : b = -1 := by omega
    rw [hornbeamref16_Best.l2, if_neg (by omega), wrap64_id (n := i - 1) (by omega) (by omega)]
    exact next k _ _ _ _ _ _ (by omega) I
  | m + 1, b, k + 1, T, F, bn, n1, n2, n3, h, b0, hk, ⟨P, I, hF⟩ => by
    have h8 := X.2.2.2.2
    have hB := (X.2.1 i i0 i1).1
    have up : ∀ j c, Bef i (b - 1) j c → Can l leaf j c → Bef i b j c ∨ (j = i ∧ c = b) := fun j c q _ => by unfold Bef at *; omega
    have mo : ∀ j c, Bef i b j c → Bef i (b - 1) j c := fun j c q => by unfold Bef at *; omega
    have C := can_f X i0 i1 (show 0 ≤ b by omega) b0
    have rec_ := fun T F bn n1 n2 n3 => rbest_l2 X pl hpl i i0 i1 Kn hKn next m (b - 1) k T F bn n1 n2 n3 (by omega) (by omega) (by omega)
    rw [hornbeamref16_Best.l2, if_pos (by omega), if_pos i0, if_pos i1, C.2.1 k (by omega), Option.bind_some, wrap64_id (n := b - 1) (by omega) (by omega)]
    by_cases ho : (cutV (rd_T25 l i) b leaf).2.2.2 = true
    · have hc : Can l leaf i b := ⟨⟨i0, i1⟩, ⟨by omega, b0⟩, ho⟩
      rw [if_pos ho]
      cases T with
      | false =>
        rw [if_neg (by decide), if_pos (by omega)]
        exact rec_ _ _ _ _ _ _ ⟨i, take X up (by unfold Bef; omega) I hc (fun h => by cases h), (if_pos rfl).symm⟩
      | true =>
        have e3 : hornbeamref05_Cmp.f k (cutV (rd_T25 l i) b leaf).1 (cutV (rd_T25 l i) b leaf).2.1 (cutV (rd_T25 l i) b leaf).2.2.1 n1 n2 n3 = some (fc (fr l leaf i b) (n1, n2, n3)) := rfc k (by omega) (can_in X hc) (top_in X I)
        rw [if_pos rfl, e3, Option.bind_some]
        by_cases g : fc (fr l leaf i b) (n1, n2, n3) ≥ 0
        · rw [if_pos g, if_pos (by omega)]
          exact rec_ _ _ _ _ _ _ ⟨i, take X up (by unfold Bef; omega) I hc (fun _ => .inr ⟨g, fun j c (q : Bef i b j c) q2 => by unfold Bef at q q2; omega⟩), (if_pos rfl).symm⟩
        · rw [if_neg g]
          exact rec_ _ _ _ _ _ _ ⟨P, keep up mo I (by omega) (fun _ _ => by omega), hF⟩
    · rw [if_neg ho]
      refine rec_ _ _ _ _ _ _ ⟨P, skip (fun j c q hc => ?_) mo I, hF⟩
      rcases up j c q hc with q | ⟨rfl, rfl⟩
      · exact q
      · exact absurd hc.2.2 ho
theorem rbest_l1 {l : List S25} {leaf : Int} (X : Cx l leaf) (pl : List Int) (hpl : pl.length = l.length) :
    ∀ (m : Nat) (i : Int) (k : Nat) (T : Bool) (F bn n1 n2 n3 : Int), i + 1 = m → i < (l.length : Int) → 100002 + 300 * m < k → St pl l leaf (fun j c => Bef (i + 1) (-1) j c) T F bn n1 n2 n3 → Done pl l leaf (hornbeamref16_Best.l1 k pl l leaf i T F bn n1 n2 n3)
  | 0, i, k + 1, T, F, bn, n1, n2, n3, h, i0, hk, I => by
    rw [hornbeamref16_Best.l1, if_neg (by omega)]
    exact ⟨_, _, _, _, _, _, _, rfl, fun j c h => by have := h.1; have := h.2.1; show Bef (i + 1) (-1) j c; unfold Bef; omega, I⟩
  | m + 1, i, k + 1, T, F, bn, n1, n2, n3, h, i1, hk, ⟨P, I, hF⟩ => by
    have i0 : 0 ≤ i := by omega
    have hB := (X.2.1 i i0 i1).1
    rw [hornbeamref16_Best.l1, if_pos (by omega), if_pos i0, if_pos i1, wrap64_id (n := (rd_T25 l i).f1 - 2) (by omega) (by omega)]
    refine rbest_l2 X pl hpl i i0 i1 (100002 + 300 * m) (by omega) (fun k T F bn n1 n2 n3 hk I => rbest_l1 X pl hpl m (i - 1) k T F bn n1 n2 n3 (by omega) (by omega) hk (by rw [show i - 1 + 1 = i by omega]; exact I)) ((rd_T25 l i).f1 - 1).toNat ((rd_T25 l i).f1 - 2) k T F bn n1 n2 n3 (by omega) (by omega) (by omega) ⟨P, skip (fun j c (q : Bef i ((rd_T25 l i).f1 - 2) j c) hc => ?_) (fun j c (q : Bef (i + 1) (-1) j c) => by unfold Bef at *; omega) I, hF⟩
    show Bef (i + 1) (-1) j c
    have := hc.2.1
    unfold Bef at *
    by_cases e : j = i
    · subst e; omega
    · omega
theorem both0 {l : List S25} (hw : ∀ h ∈ l, Wf h) {leaf : Int} (il : InI leaf) (pl : List Int) (hpl : pl.length = l.length) (h8 : l.length ≤ 8) :
    ∀ (m : Nat) (i : Int) (k : Nat), i + m = (l.length : Int) → 0 ≤ i → 110000 + m < k → (∀ j : Int, 0 ≤ j → j < i → RtH (rd_T25 l j)) → ∃ v, split_Best.l0 k pl l leaf l (l.length : Int) i = some v ∧ hornbeamref16_Best.l0 k pl l leaf i = some v
  | 0, i, k + 1, h, i0, hk, hR => by
    have e1 : split_Best.l0 (k + 1) pl l leaf l (l.length : Int) i = if leaf < 1 then some (false, 0, 0, 0, 0, 0, 1) else split_Best.l1 k pl leaf l (l.length : Int) 0 false 0 0 0 0 0 := by rw [split_Best.l0, if_neg (by omega)]
    have e2 : hornbeamref16_Best.l0 (k + 1) pl l leaf i = if leaf < 1 then some (false, 0, 0, 0, 0, 0, 1) else hornbeamref16_Best.l1 k pl l leaf (wrap64 ((l.length : Int) - 1)) false 0 0 0 0 0 := by rw [hornbeamref16_Best.l0, if_neg (by omega)]
    rw [e1, e2]
    by_cases hl : leaf < 1
    · rw [if_pos hl, if_pos hl]; exact ⟨_, rfl, rfl⟩
    · rw [if_neg hl, if_neg hl, wrap64_id (n := (l.length : Int) - 1) (by omega) (by omega)]
      have X : Cx l leaf := ⟨hw, fun j j0 j1 => hR j j0 (by omega), by omega, il, h8⟩
      have no : ∀ j c, Can l leaf j c → ¬ Bef j c 0 0 := fun j c q z => by have := q.1; have := q.2.1; unfold Bef at z; omega
      have no' : ∀ j c, Can l leaf j c → ¬ Bef ((l.length : Int) - 1 + 1) (-1) j c := fun j c q z => by have := q.1; have := q.2.1; unfold Bef at z; omega
      exact done_one (best_l1 X pl hpl l.length 0 k false 0 0 0 0 0 (by omega) (Int.le_refl _) (by omega) ⟨0, .inl ⟨rfl, rfl, rfl, rfl, rfl, rfl, fun j c q hc => no j c hc q⟩, rfl⟩)
        (rbest_l1 X pl hpl l.length ((l.length : Int) - 1) k false 0 0 0 0 0 (by omega) (by omega) (by omega) ⟨0, .inl ⟨rfl, rfl, rfl, rfl, rfl, rfl, fun j c q hc => no' j c hc q⟩, rfl⟩)
  | m + 1, i, k + 1, h, i0, hk, hR => by
    obtain ⟨r, hr, hiff⟩ := right_f (rd_T25 l i).f0 (rd_T25 l i).f1 (rd_T25 l i).f2 (rd_T25 l i).f3 (rd_T25 l i).f4
    obtain ⟨r', rr, hiff'⟩ := rright_f k (by omega) (rd_T25 l i).f0 (rd_T25 l i).f1 (rd_T25 l i).f2 (rd_T25 l i).f3 (rd_T25 l i).f4
    have e : r' = r := Bool.eq_iff_iff.2 (hiff'.trans hiff.symm)
    subst e
    have e1 : split_Best.l0 (k + 1) pl l leaf l (l.length : Int) i = if r' = true then split_Best.l0 k pl l leaf l (l.length : Int) (i + 1) else some (false, 0, 0, 0, 0, 0, 8) := by rw [split_Best.l0, if_pos (by omega), if_pos i0, if_pos (by omega), hr, Option.bind_some, wrap64_id (n := i + 1) (by omega) (by omega)]
    have e2 : hornbeamref16_Best.l0 (k + 1) pl l leaf i = if r' = true then hornbeamref16_Best.l0 k pl l leaf (i + 1) else some (false, 0, 0, 0, 0, 0, 8) := by rw [hornbeamref16_Best.l0, if_pos (by omega), if_pos i0, rr, Option.bind_some, wrap64_id (n := i + 1) (by omega) (by omega)]
    rw [e1, e2]
    cases r' with
    | false => rw [if_neg (by decide), if_neg (by decide)]; exact ⟨_, rfl, rfl⟩
    | true =>
      rw [if_pos rfl, if_pos rfl]
      refine both0 hw il pl hpl h8 m (i + 1) k (by omega) (by omega) (by omega) (fun j j0 j1 => ?_)
      by_cases e : j = i
      · subst e; exact hiff.1 rfl
      · exact hR j j0 (by omega)
end SplitBest0
open SplitBest0
theorem SplitBest : hornbeamlaw16_SplitBest.Pure := by
  intro pl l leaf _ _ hwf wl
  have hw : ∀ h ∈ l, Wf h := fun h hh => by
    obtain ⟨_, w1, _, w3, w4⟩ := hwf.2 h hh
    exact ⟨wf_in w1, fun x hx => wf_in (w3.2 x hx), fun m hm => ⟨wf_in (w4.2 m hm).1, wf_in (w4.2 m hm).2.1, wf_in (w4.2 m hm).2.2⟩⟩
  refine ⟨120000, ?_⟩
  have hf := fixed_f 120000 (by omega)
  obtain ⟨g, hg, h8⟩ := great_f l 120000 (by omega)
  unfold hornbeamlaw16_SplitBest.f
  rw [hg, Option.bind_some]
  cases g with
  | true => rw [if_pos rfl, hf, Option.bind_some]
  | false =>
  rw [if_neg (by decide)]
  have h8 := h8 rfl
  obtain ⟨v, hv, hr⟩ : ∃ v, split_Best.f 120000 pl l leaf = some v ∧ hornbeamref16_Best.f 120000 pl l leaf = some v := by
    unfold split_Best.f hornbeamref16_Best.f
    by_cases e : (pl.length : Int) = (l.length : Int)
    · rw [if_pos e, if_pos e]
      exact both0 hw (wf_in wl) pl (by omega) h8 l.length 0 120000 (by omega) (Int.le_refl _) (by omega) (fun j j0 j1 => by omega)
    · rw [if_neg e, if_neg e]; exact ⟨_, rfl, rfl⟩
  rw [hv, Option.bind_some, hr, Option.bind_some, hf, Option.bind_some, if_pos rfl]
  simp
end Go.Proofs.Ytancajnbjmcamaa.Pure
