/- For all lists of counts the law GiniMajors answers true. No condition. -/
import Derived.Test.YtpbgfmbkjojdeaaQGiniMajorsx3
import Derived.Test.YtpbgfmbkjojdeaaP64
import Derived.Test.YtpbgfmbkjojdeaaSums
namespace Go.Proofs.Ytpbgfmbkjojdeaa.Pure
open Go.RowKit Go.Proofs.Ytpbgfmbkjojdeaa.QGiniMajors Go.Proofs.YtpbgfmbkjojdeaaW.PrintWords Go.Proofs.YtpbgfmbkjojdeaaW.PrintLast
open Go.Proofs.Ytpbgfmbkjojdeaa.P64 Go.Proofs.Ytpbgfmbkjojdeaa.Sums
namespace GiniMajors0
def MayG (l : List Int) : Prop := 2 ≤ l.length ∧ l.length ≤ 256 ∧ (∀ x ∈ l, 0 ≤ x) ∧ S1 l ≤ 1048576
instance (l : List Int) : Decidable (MayG l) := by unfold MayG; exact inferInstance
theorem S1_nonneg {l : List Int} (h : ∀ x ∈ l, 0 ≤ x) : 0 ≤ S1 l := by
  induction l with
  | nil => exact Int.le_refl _
  | cons x l ih =>
    have h1 := h x List.mem_cons_self
    have h2 := ih fun y hy => h y (List.mem_cons_of_mem _ hy)
    rw [S1]; omega
theorem rd_nat (l : List Int) (i : Nat) : rd l (i : Int) = l.getD i 0 := rfl
theorem may_l (l : List Int) (hl : l.length ≤ 256) (d : Nat) : ∀ (k i : Nat) (s : Int), i + d = l.length → d < k → 0 ≤ s → s ≤ 1048576 * (i : Int) →
    gini_May.l0 k s l (l.length : Int) (i : Int) = some (decide ((∀ x ∈ l.drop i, 0 ≤ x) ∧ s + S1 (l.drop i) ≤ 1048576)) ∨ (gini_May.l0 k s l (l.length : Int) (i : Int) = some false ∧ ¬ ((∀ x ∈ l.drop i, 0 ≤ x) ∧ s + S1 (l.drop i) ≤ 1048576)) := by
  induction d with
  | zero =>
    intro k i s hi hk s0 s1
    obtain ⟨k, rfl⟩ : ∃ m, k = m + 1 := ⟨k - 1, by omega⟩
    left
    rw [gini_May.l0, if_neg (by omega), List.drop_eq_nil_of_le (by omega)]
    congr 1
    rw [decide_eq_decide, S1]
    exact ⟨fun h => ⟨(fun x hx => by cases hx), by omega⟩, fun h => by omega⟩
  | succ d ih =>
    intro k i s hi hk s0 s1
    obtain ⟨k, rfl⟩ : ∃ m, k = m + 1 := ⟨k - 1, by omega⟩
    have hlt : i < l.length := by omega
    have e : l.getD i 0 = l[i] := by simp [List.getD, hlt]
    rw [gini_May.l0, if_pos (by omega), if_pos (by omega), if_pos (by omega), rd_nat, e, List.drop_eq_getElem_cons hlt, show wrap64 ((i : Int) + 1) = ((i + 1 : Nat) : Int) by unfold wrap64; omega]
    by_cases h1 : l[i] < 0
    · rw [if_pos h1]
      exact .inr ⟨rfl, fun h => by have := h.1 l[i] List.mem_cons_self; omega⟩
    · rw [if_neg h1]
      by_cases h2 : l[i] > 1048576
      · rw [if_pos h2]
        refine .inr ⟨rfl, fun h => ?_⟩
        have := S1_nonneg (l := l.drop (i + 1)) fun y hy => h.1 y (List.mem_cons_of_mem _ hy)
        have h3 := h.2
        rw [S1] at h3
        omega
      · rw [if_neg h2, wrap64_id (n := s + l[i]) (by omega) (by omega)]
        have := ih k (i + 1) (s + l[i]) (by omega) (by omega) (by omega) (by omega)
        have hiff : ((∀ x ∈ l[i] :: l.drop (i + 1), 0 ≤ x) ∧ s + S1 (l[i] :: l.drop (i + 1)) ≤ 1048576) ↔ ((∀ x ∈ l.drop (i + 1), 0 ≤ x) ∧ s + l[i] + S1 (l.drop (i + 1)) ≤ 1048576) := by
          rw [S1]
          constructor
          · intro h; exact ⟨fun y hy => h.1 y (List.mem_cons_of_mem _ hy), by omega⟩
          · intro h
            refine ⟨fun y hy => ?_, by omega⟩
            rcases List.mem_cons.1 hy with rfl | hy
            · omega
            · exact h.1 y hy
        rw [decide_eq_decide.2 hiff, hiff]
        exact this
theorem may_f (l : List Int) (k : Nat) (hk : 300 ≤ k) : gini_May.f k l = some (decide (MayG l)) := by
  obtain ⟨k, rfl⟩ : ∃ m, k = m + 1 := ⟨k - 1, by omega⟩
  have jt : gini_May.j0 (k + 1) l true = some false := by rw [gini_May.j0, if_pos rfl]
  unfold gini_May.f
  by_cases h1 : (l.length : Int) < 2
  · rw [if_pos h1, jt, decide_eq_false (fun h => by have := h.1; omega)]
  · rw [if_neg h1]
    by_cases h2 : (l.length : Int) > 256
    · rw [decide_eq_true h2, jt, decide_eq_false (fun h => by have := h.2.1; omega)]
    · rw [decide_eq_false h2, gini_May.j0, if_neg (by decide)]
      have hm : MayG l ↔ ((∀ x ∈ l.drop 0, 0 ≤ x) ∧ 0 + S1 (l.drop 0) ≤ 1048576) := by
        unfold MayG
        rw [List.drop_zero, Int.zero_add]
        exact ⟨fun h => h.2.2, fun h => ⟨by omega, by omega, h⟩⟩
      rcases may_l l (by omega) l.length k 0 0 (by omega) (by omega) (by omega) (by omega) with h | h
      · refine (show gini_May.l0 k 0 l (l.length : Int) 0 = _ from h).trans ?_
        rw [decide_eq_decide.2 hm]
      · refine (show gini_May.l0 k 0 l (l.length : Int) 0 = _ from h.1).trans ?_
        rw [decide_eq_false (fun h2 => h.2 (hm.1 h2))]
theorem total_s (l : List Int) (h : ∀ x ∈ l, 0 ≤ x) : ∀ s : Int, 0 ≤ s → s + S1 l ≤ 4294967296 → l.foldl (fun acc x => IntKind.u64.wrap (acc + gini_total.g (IntKind.u64.wrap x))) s = s + S1 l := by
  induction l with
  | nil => intro s _ _; simp [S1]
  | cons x l ih =>
    intro s s0 s1
    have h1 := h x List.mem_cons_self
    have h2 := S1_nonneg (l := l) fun y hy => h y (List.mem_cons_of_mem _ hy)
    rw [S1] at s1
    rw [List.foldl_cons, uwrap_id (n := x) h1 (by omega)]
    unfold gini_total.g
    rw [uwrap_id (n := s + x) (by omega) (by omega)]
    have := ih (fun y hy => h y (List.mem_cons_of_mem _ hy)) (s + x) (by omega) (by omega)
    unfold gini_total.g at this
    rw [this, S1]; omega
theorem total_f {l : List Int} (h : MayG l) : gini_total.f l = some (S1 l) := by
  unfold gini_total.f gini_total.s
  rw [if_pos (by have := h.2.1; omega), total_s l h.2.2.1 0 (by omega) (by have := h.2.2.2; omega), Int.zero_add]
theorem S2_le {l : List Int} (h : ∀ x ∈ l, 0 ≤ x) : 0 ≤ S2 l ∧ S2 l ≤ S1 l * S1 l := by
  induction l with
  | nil => simp [S1, S2]
  | cons x l ih =>
    have h1 := h x List.mem_cons_self
    have hl := fun y hy => h y (List.mem_cons_of_mem _ hy)
    have h2 := ih hl
    have h3 := S1_nonneg hl
    have h4 := Int.mul_nonneg h1 h1
    have h5 := Int.mul_nonneg h1 h3
    have e : (x + S1 l) * (x + S1 l) = x * x + 2 * (x * S1 l) + S1 l * S1 l := by rw [Int.add_mul, Int.mul_add, Int.mul_add, Int.mul_comm (S1 l) x]; omega
    rw [S1, S2, e]; omega
theorem squares_s (l : List Int) (h : ∀ x ∈ l, 0 ≤ x) (hs : S1 l ≤ 1048576) : ∀ s : Int, 0 ≤ s → s + S2 l ≤ 1099511627776 → l.foldl (fun acc x => IntKind.u64.wrap (acc + gini_squares.g (IntKind.u64.wrap x))) s = s + S2 l := by
  induction l with
  | nil => intro s _ _; simp [S2]
  | cons x l ih =>
    intro s s0 s1
    have h1 := h x List.mem_cons_self
    have hl := fun y hy => h y (List.mem_cons_of_mem _ hy)
    have h2 := S1_nonneg (l := l) hl
    have h3 := S2_le (l := l) hl
    have h4 := Int.mul_nonneg h1 h1
    rw [S1] at hs
    rw [S2] at s1
    rw [List.foldl_cons, uwrap_id (n := x) h1 (by omega)]
    unfold gini_squares.g
    rw [uwrap_id (n := x * x) h4 (by omega), uwrap_id (n := s + x * x) (by omega) (by omega)]
    have := ih hl (by omega) (s + x * x) (by omega) (by omega)
    unfold gini_squares.g at this
    rw [this, S2]; omega
theorem S2_small {l : List Int} (h : MayG l) : 0 ≤ S2 l ∧ S2 l ≤ 1099511627776 := by
  have h1 := S2_le h.2.2.1
  have h2 := S1_nonneg h.2.2.1
  have h3 := h.2.2.2
  have h4 := Int.mul_le_mul (a := S1 l) (b := S1 l) (c := 1048576) (d := 1048576) h3 h3 h2 (by omega)
  omega
theorem squares_f {l : List Int} (h : MayG l) : gini_squares.f l = some (S2 l) := by
  have := S2_small h
  unfold gini_squares.f gini_squares.s
  rw [if_pos (by have := h.2.1; omega), squares_s l h.2.2.1 h.2.2.2 0 (by omega) (by omega), Int.zero_add]
theorem rmay_l (l : List Int) (hl : l.length ≤ 256) (d : Nat) : ∀ (k i : Nat) (s : Int), i + d = l.length → d < k → 0 ≤ s → s ≤ 1048576 →
    hornbeamref14_May.l0 k l s (i : Int) = some (decide ((∀ x ∈ l.drop i, 0 ≤ x) ∧ S1 (l.drop i) ≤ s)) := by
  induction d with
  | zero =>
    intro k i s hi hk s0 s1
    obtain ⟨k, rfl⟩ : ∃ m, k = m + 1 := ⟨k - 1, by omega⟩
    rw [hornbeamref14_May.l0, if_neg (by omega), List.drop_eq_nil_of_le (by omega), decide_eq_true]
    exact ⟨(fun x hx => by cases hx), by rw [S1]; omega⟩
  | succ d ih =>
    intro k i s hi hk s0 s1
    obtain ⟨k, rfl⟩ : ∃ m, k = m + 1 := ⟨k - 1, by omega⟩
    have hlt : i < l.length := by omega
    have e : l.getD i 0 = l[i] := by simp [List.getD, hlt]
    rw [hornbeamref14_May.l0, if_pos (by omega), if_pos (by omega), rd_nat, e, List.drop_eq_getElem_cons hlt, show wrap64 ((i : Int) + 1) = ((i + 1 : Nat) : Int) by unfold wrap64; omega]
    by_cases h1 : l[i] < 0
    · rw [if_pos h1, decide_eq_false (fun h => by have := h.1 l[i] List.mem_cons_self; omega)]
    · rw [if_neg h1]
      by_cases h2 : l[i] > s
      · rw [if_pos h2, decide_eq_false]
        intro h
        have := S1_nonneg (l := l.drop (i + 1)) fun y hy => h.1 y (List.mem_cons_of_mem _ hy)
        have h3 := h.2
        rw [S1] at h3
        omega
      · rw [if_neg h2, wrap64_id (n := s - l[i]) (by omega) (by omega), ih k (i + 1) (s - l[i]) (by omega) (by omega) (by omega) (by omega)]
        congr 1
        rw [decide_eq_decide, S1]
        constructor
        · intro h
          refine ⟨fun y hy => ?_, by omega⟩
          rcases List.mem_cons.1 hy with rfl | hy
          · omega
          · exact h.1 y hy
        · intro h; exact ⟨fun y hy => h.1 y (List.mem_cons_of_mem _ hy), by omega⟩
theorem rmay_f (l : List Int) (k : Nat) (hk : 300 ≤ k) : hornbeamref14_May.f k l = some (decide (MayG l)) := by
  obtain ⟨k, rfl⟩ : ∃ m, k = m + 1 := ⟨k - 1, by omega⟩
  have jt : hornbeamref14_May.j0 (k + 1) l true = some false := by rw [hornbeamref14_May.j0, if_pos rfl]
  unfold hornbeamref14_May.f
  by_cases h1 : (l.length : Int) < 2
  · rw [if_pos h1, jt, decide_eq_false (fun h => by have := h.1; omega)]
  · rw [if_neg h1]
    by_cases h2 : (l.length : Int) > 256
    · rw [decide_eq_true h2, jt, decide_eq_false (fun h => by have := h.2.1; omega)]
    · rw [decide_eq_false h2, hornbeamref14_May.j0, if_neg (by decide)]
      refine (show hornbeamref14_May.l0 k l 1048576 0 = _ from rmay_l l (by omega) l.length k 0 1048576 (by omega) (by omega) (by omega) (by omega)).trans ?_
      congr 1
      rw [decide_eq_decide, List.drop_zero]
      unfold MayG
      exact ⟨fun h => ⟨by omega, by omega, h⟩, fun h => h.2.2⟩
theorem mul_f (a b : Int) : prod_Mul.f a b = some (mul64 a b) := rfl
theorem mul_eq {a b : Int} (a0 : 0 ≤ a) (a1 : a < 18446744073709551616) (b0 : 0 ≤ b) (b1 : b < 18446744073709551616) :
    prod_Mul.f a b = some (a * b / 18446744073709551616, a * b % 18446744073709551616) := by rw [mul_f, mul64_eq a0 a1 b0 b1]
theorem add64_f {a b c : Int} (a0 : 0 ≤ a) (b0 : 0 ≤ b) (c0 : 0 ≤ c) (c1 : c ≤ 1) : bits_Add64.f a b c = some ((a + b + c) % 18446744073709551616, (a + b + c) / 18446744073709551616) := by
  unfold bits_Add64.f
  rw [if_pos ⟨a0, b0, c0, c1⟩]
theorem add_f {a b c d : Int} (a0 : 0 ≤ a) (a1 : a < 18446744073709551616) (b0 : 0 ≤ b) (b1 : b < 18446744073709551616) (c0 : 0 ≤ c) (c1 : c < 18446744073709551616) (d0 : 0 ≤ d) (d1 : d < 18446744073709551616) :
    prod_Add.f a b c d = some (wideSum (a * 18446744073709551616 + b + (c * 18446744073709551616 + d))) := by
  unfold prod_Add.f
  rw [add64_f b0 d0 (by omega) (by omega), Option.bind_some, add64_f a0 c0 (by omega) (by omega), Option.bind_some]
  unfold wideSum
  have e1 : (b + d + 0) / 18446744073709551616 = (b + d) / 18446744073709551616 := by rw [Int.add_zero]
  have e2 : (a * 18446744073709551616 + b + (c * 18446744073709551616 + d)) / 18446744073709551616 = a + c + (b + d) / 18446744073709551616 := by omega
  have e3 : (a * 18446744073709551616 + b + (c * 18446744073709551616 + d)) % 18446744073709551616 = (b + d) % 18446744073709551616 := by omega
  rw [e1, e2, e3, Int.add_zero]
  by_cases h : (a + c + (b + d) / 18446744073709551616) / 18446744073709551616 = 0
  · rw [if_pos h, if_pos (by omega), Int.emod_eq_of_lt (a := a + c + (b + d) / 18446744073709551616) (by omega) (by omega)]
  · rw [if_neg h, if_neg (by omega)]
/-- How well counts are apart. -/
def aloneD (l : List Int) : Int × Int × Int := if MayG l ∧ S1 l ≠ 0 then (0, S2 l, S1 l) else (0, 0, 0)
theorem alone_f (l : List Int) (k : Nat) (hk : 301 ≤ k) : gini_Alone.f k l = some (aloneD l) := by
  obtain ⟨k, rfl⟩ : ∃ m, k = m + 1 := ⟨k - 1, by omega⟩
  have jt : gini_Alone.j0 (k + 1) l true = some (0, 0, 0) := by rw [gini_Alone.j0, if_pos rfl]
  unfold gini_Alone.f aloneD
  rw [may_f l _ (by omega), Option.bind_some]
  by_cases h : MayG l
  · rw [decide_eq_true h, if_pos rfl, total_f h, Option.bind_some]
    by_cases h0 : S1 l = 0
    · rw [show (S1 l == 0) = true from beq_iff_eq.2 h0, jt, if_neg (show ¬ (MayG l ∧ S1 l ≠ 0) from fun h2 => h2.2 h0)]
    · rw [show (S1 l == 0) = false from beq_eq_false_iff_ne.2 h0, gini_Alone.j0, if_neg (by decide), squares_f h, Option.bind_some, total_f h, Option.bind_some, if_pos (show MayG l ∧ S1 l ≠ 0 from ⟨h, h0⟩)]
  · rw [decide_eq_false h, if_neg (by decide), jt, if_neg (show ¬ (MayG l ∧ S1 l ≠ 0) from fun h2 => h h2.1)]
/-- May these two be sides, both with targets? -/
def Sides (a b : List Int) : Prop := MayG a ∧ MayG b ∧ a.length = b.length ∧ S1 a ≠ 0 ∧ S1 b ≠ 0
instance (a b : List Int) : Decidable (Sides a b) := by unfold Sides; exact inferInstance
/-- The upper number of two sides. -/
def upper (a b : List Int) : Int := S2 a * S1 b + S2 b * S1 a
def scoreD (a b : List Int) : Int × Int × Int := if Sides a b then (upper a b / 18446744073709551616, upper a b % 18446744073709551616, S1 a * S1 b) else (0, 0, 0)
theorem upper_bound {a b : List Int} (h : Sides a b) : (0 ≤ S2 a * S1 b ∧ S2 a * S1 b ≤ 1099511627776 * 1048576) ∧ (0 ≤ S2 b * S1 a ∧ S2 b * S1 a ≤ 1099511627776 * 1048576) ∧ (0 ≤ S1 a * S1 b ∧ S1 a * S1 b ≤ 1048576 * 1048576) := by
  obtain ⟨ha, hb, _, _, _⟩ := h
  have a1 := S2_small ha; have b1 := S2_small hb
  have a2 := S1_nonneg ha.2.2.1; have b2 := S1_nonneg hb.2.2.1
  have a3 := ha.2.2.2; have b3 := hb.2.2.2
  exact ⟨⟨Int.mul_nonneg a1.1 b2, Int.mul_le_mul a1.2 b3 b2 (by omega)⟩, ⟨Int.mul_nonneg b1.1 a2, Int.mul_le_mul b1.2 a3 a2 (by omega)⟩, ⟨Int.mul_nonneg a2 b2, Int.mul_le_mul a3 b3 b2 (by omega)⟩⟩
theorem score_f (a b : List Int) (k : Nat) (hk : 301 ≤ k) : gini_Score.f k a b = some (scoreD a b) := by
  obtain ⟨k, rfl⟩ : ∃ m, k = m + 1 := ⟨k - 1, by omega⟩
  have jt : gini_Score.j0 (k + 1) a b true = some (0, 0, 0) := by rw [gini_Score.j0, if_pos rfl]
  have no : ∀ h : ¬ Sides a b, some (0, 0, 0) = some (scoreD a b) := fun h => by unfold scoreD; rw [if_neg h]
  unfold gini_Score.f
  rw [may_f a _ (by omega), Option.bind_some]
  by_cases ha : MayG a
  · rw [decide_eq_true ha, if_pos rfl, may_f b _ (by omega), Option.bind_some]
    by_cases hb : MayG b
    · rw [decide_eq_true hb, if_pos rfl]
      by_cases hl : (a.length : Int) = (b.length : Int)
      · rw [if_pos hl, total_f ha, Option.bind_some]
        by_cases h1 : S1 a = 0
        · rw [if_pos h1, jt]; exact no (fun h => h.2.2.2.1 h1)
        · rw [if_neg h1, total_f hb, Option.bind_some]
          by_cases h2 : S1 b = 0
          · rw [show (S1 b == 0) = true from beq_iff_eq.2 h2, jt]; exact no (fun h => h.2.2.2.2 h2)
          · have hs : Sides a b := ⟨ha, hb, by omega, h1, h2⟩
            have a1 := S2_small ha; have b1 := S2_small hb
            have a2 := S1_nonneg ha.2.2.1; have b2 := S1_nonneg hb.2.2.1
            have a3 := ha.2.2.2; have b3 := hb.2.2.2
            obtain ⟨u1, u2, u3⟩ := upper_bound hs
            rw [show (S1 b == 0) = false from beq_eq_false_iff_ne.2 h2, gini_Score.j0, if_neg (by decide), total_f ha, Option.bind_some, total_f hb, Option.bind_some, squares_f ha, Option.bind_some, mul_eq (by omega) (by omega) (by omega) (by omega), Option.bind_some,
              squares_f hb, Option.bind_some, mul_eq (by omega) (by omega) (by omega) (by omega), Option.bind_some, add_f (by omega) (by omega) (by omega) (by omega) (by omega) (by omega) (by omega) (by omega), Option.bind_some, uwrap_id (n := S1 a * S1 b) (by omega) (by omega)]
            have e : S2 a * S1 b / 18446744073709551616 * 18446744073709551616 + S2 a * S1 b % 18446744073709551616 + (S2 b * S1 a / 18446744073709551616 * 18446744073709551616 + S2 b * S1 a % 18446744073709551616) = upper a b := by unfold upper; omega
            rw [e]
            unfold wideSum scoreD
            rw [if_pos (show upper a b < 340282366920938463463374607431768211456 by unfold upper; omega), if_pos hs]
      · rw [if_neg hl, jt]; exact no (fun h => hl (by rw [h.2.2.1]))
    · rw [decide_eq_false hb, if_neg (by decide), jt]; exact no (fun h => hb h.2.1)
  · rw [decide_eq_false ha, if_neg (by decide), jt]; exact no (fun h => ha h.1)
theorem fixed_f (k : Nat) (hk : 301 ≤ k) : hornbeamlaw14_fixed.f k = some true := by
  unfold hornbeamlaw14_fixed.f
  rw [alone_f _ k hk, Option.bind_some, show aloneD [2, 2] = (0, 8, 4) by decide, if_pos (by decide), score_f _ _ k hk, Option.bind_some, show scoreD [2, 0] [0, 2] = (0, 16, 4) by decide]
  rfl
/-- How many classes have targets. -/
def cnt : List Int → Int
  | [] => 0
  | x :: l => (if 0 < x then 1 else 0) + cnt l
theorem cnt_nonneg : ∀ l : List Int, 0 ≤ cnt l ∧ cnt l ≤ l.length
  | [] => by simp [cnt]
  | x :: l => by have := cnt_nonneg l; rw [cnt, List.length_cons]; split <;> omega
theorem pure_s (l : List Int) (h : ∀ x ∈ l, 0 ≤ x) (hs : S1 l ≤ 1048576) : ∀ s : Int, 0 ≤ s → s + l.length ≤ 4294967296 → l.foldl (fun acc x => IntKind.u64.wrap (acc + gini_Pure.g (IntKind.u64.wrap x))) s = s + cnt l := by
  induction l with
  | nil => intro s _ _; simp [cnt]
  | cons x l ih =>
    intro s s0 s1
    have h1 := h x List.mem_cons_self
    have hl := fun y hy => h y (List.mem_cons_of_mem _ hy)
    have h2 := S1_nonneg (l := l) hl
    rw [S1] at hs
    rw [List.length_cons] at s1
    have hg : gini_Pure.g x = (if 0 < x then 1 else 0) := by
      unfold gini_Pure.g
      by_cases h3 : 1 < x
      · rw [if_pos h3, if_pos (by omega)]
      · rw [if_neg h3]; split <;> omega
    have hb : 0 ≤ (if 0 < x then 1 else 0 : Int) ∧ (if 0 < x then 1 else 0 : Int) ≤ 1 := by split <;> omega
    rw [List.foldl_cons, uwrap_id (n := x) h1 (by omega), hg, uwrap_id (n := s + _) (by omega) (by omega)]
    rw [ih hl (by omega) _ (by omega) (by omega), cnt]; omega
theorem pure_f (l : List Int) (k : Nat) (hk : 300 ≤ k) : gini_Pure.f k l = some (decide (MayG l ∧ cnt l ≤ 1)) := by
  unfold gini_Pure.f gini_Pure.s
  rw [may_f l k hk, Option.bind_some]
  by_cases h : MayG l
  · have := cnt_nonneg l; have h2 := h.2.1
    rw [decide_eq_true h, if_pos rfl, if_pos (by omega), pure_s l h.2.2.1 h.2.2.2 0 (by omega) (by omega), Int.zero_add]
    congr 1
    rw [decide_eq_decide]
    exact ⟨fun h1 => ⟨h, h1⟩, fun h1 => h1.2⟩
  · rw [decide_eq_false h, if_neg (by decide), decide_eq_false (fun h1 => h h1.1)]
/-- The place of the first greatest one. -/
def First (l : List Int) (b : Nat) : Prop := b < l.length ∧ (∀ j, j < l.length → l.getD j 0 ≤ l.getD b 0) ∧ ∀ j, j < b → l.getD j 0 < l.getD b 0
theorem First.uniq {l : List Int} {a b : Nat} (ha : First l a) (hb : First l b) : a = b := by
  rcases Nat.lt_trichotomy a b with h | h | h
  · have h1 := hb.2.2 a h; have h2 := ha.2.1 b hb.1; omega
  · exact h
  · have h1 := ha.2.2 b h; have h2 := hb.2.1 a ha.1; omega
theorem major_l (l : List Int) (hl : l.length ≤ 256) (d : Nat) : ∀ (k i b : Nat), i + d = l.length → d < k → b < l.length → (∀ j, j < i → l.getD j 0 ≤ l.getD b 0) → (∀ j, j < b → l.getD j 0 < l.getD b 0) → (b ≤ i) →
    ∃ r : Nat, gini_Major.l0 k l (b : Int) l (l.length : Int) (i : Int) = some (r : Int) ∧ First l r := by
  induction d with
  | zero =>
    intro k i b hi hk hb h1 h2 _
    obtain ⟨k, rfl⟩ : ∃ m, k = m + 1 := ⟨k - 1, by omega⟩
    exact ⟨b, by rw [gini_Major.l0, if_neg (by omega)], hb, fun j hj => h1 j (by omega), h2⟩
  | succ d ih =>
    intro k i b hi hk hb h1 h2 h3
    obtain ⟨k, rfl⟩ : ∃ m, k = m + 1 := ⟨k - 1, by omega⟩
    rw [gini_Major.l0, if_pos (by omega), if_pos (by omega), if_pos (by omega), if_pos (by omega), if_pos (by omega), rd_nat, rd_nat, show wrap64 ((i : Int) + 1) = ((i + 1 : Nat) : Int) by unfold wrap64; omega]
    by_cases hg : l.getD i 0 > l.getD b 0
    · rw [if_pos hg]
      refine ih k (i + 1) i (by omega) (by omega) (by omega) (fun j hj => ?_) (fun j hj => ?_) (by omega)
      · by_cases e : j = i
        · subst e; omega
        · have := h1 j (by omega); omega
      · have := h1 j hj; omega
    · rw [if_neg hg]
      refine ih k (i + 1) b (by omega) (by omega) hb (fun j hj => ?_) h2 (by omega)
      by_cases e : j = i
      · subst e; omega
      · exact h1 j (by omega)
theorem rmajor_l (l : List Int) (hl : l.length ≤ 256) (n : Nat) : ∀ (k b : Nat), n ≤ l.length → n < k → b < l.length → (∀ j, n ≤ j → j < l.length → l.getD j 0 ≤ l.getD b 0) → (∀ j, n ≤ j → j < b → l.getD j 0 < l.getD b 0) → (n ≤ b ∨ n = l.length ∧ b + 1 = l.length) →
    ∃ r : Nat, hornbeamref14_Major.l0 k l (b : Int) ((n : Int) - 1) = some (r : Int) ∧ First l r := by
  induction n with
  | zero =>
    intro k b hn hk hb h1 h2 _
    obtain ⟨k, rfl⟩ : ∃ m, k = m + 1 := ⟨k - 1, by omega⟩
    exact ⟨b, by rw [hornbeamref14_Major.l0, if_neg (by omega)], hb, fun j hj => h1 j (by omega) hj, fun j hj => h2 j (by omega) hj⟩
  | succ n ih =>
    intro k b hn hk hb h1 h2 h3
    obtain ⟨k, rfl⟩ : ∃ m, k = m + 1 := ⟨k - 1, by omega⟩
    rw [show ((n + 1 : Nat) : Int) - 1 = (n : Int) by omega, hornbeamref14_Major.l0, if_pos (by omega), if_pos (by omega), if_pos (by omega), if_pos (by omega), if_pos (by omega), rd_nat, rd_nat, show wrap64 ((n : Int) - 1) = (n : Int) - 1 by unfold wrap64; omega]
    by_cases hg : l.getD n 0 ≥ l.getD b 0
    · rw [if_pos hg]
      refine ih k n (by omega) (by omega) (by omega) (fun j hj hj2 => ?_) (fun j hj hj2 => by omega) (by omega)
      by_cases e : j = n
      · subst e; omega
      · have := h1 j (by omega) hj2; omega
    · rw [if_neg hg]
      refine ih k b (by omega) (by omega) hb (fun j hj hj2 => ?_) (fun j hj hj2 => ?_) ?_
      · by_cases e : j = n
        · subst e; omega
        · exact h1 j (by omega) hj2
      · by_cases e : j = n
        · subst e; omega
        · exact h2 j (by omega) hj2
      · rcases h3 with h3 | ⟨h3, h4⟩
        · exact .inl (by omega)
        · have : b = n := by omega
          subst this
          exact .inl (Nat.le_refl _)
theorem rpure_l (l : List Int) (hl : l.length ≤ 300) (d : Nat) : ∀ (k i : Nat) (s : Int), i + d = l.length → d + 300 < k → 0 ≤ s → s ≤ i →
    hornbeamref14_Pure.l0 k l s (i : Int) = some (decide (MayG l ∧ s + cnt (l.drop i) ≤ 1)) := by
  induction d with
  | zero =>
    intro k i s hi hk s0 s1
    obtain ⟨k, rfl⟩ : ∃ m, k = m + 1 := ⟨k - 1, by omega⟩
    rw [hornbeamref14_Pure.l0, if_neg (by omega), rmay_f l k (by omega), Option.bind_some, List.drop_eq_nil_of_le (by omega), cnt]
    by_cases h : MayG l
    · rw [decide_eq_true h, if_pos rfl]
      congr 1
      rw [decide_eq_decide]
      exact ⟨fun h1 => ⟨h, by omega⟩, fun h1 => by have := h1.2; omega⟩
    · rw [decide_eq_false h, if_neg (by decide), decide_eq_false (fun h1 => h h1.1)]
  | succ d ih =>
    intro k i s hi hk s0 s1
    obtain ⟨k, rfl⟩ : ∃ m, k = m + 1 := ⟨k - 1, by omega⟩
    have hlt : i < l.length := by omega
    have e : l.getD i 0 = l[i] := by simp [List.getD, hlt]
    rw [hornbeamref14_Pure.l0, if_pos (by omega), if_pos (by omega), rd_nat, e, List.drop_eq_getElem_cons hlt, cnt, show wrap64 ((i : Int) + 1) = ((i + 1 : Nat) : Int) by unfold wrap64; omega]
    by_cases hg : l[i] > 0
    · rw [if_pos hg, if_pos hg, show wrap64 (s + 1) = s + 1 by unfold wrap64; omega, ih k (i + 1) (s + 1) (by omega) (by omega) (by omega) (by omega), Int.add_assoc]
    · rw [if_neg hg, if_neg hg, ih k (i + 1) s (by omega) (by omega) (by omega) (by omega), Int.zero_add]
theorem law_f (k : Nat) (hk : 1000 ≤ k) (l : List Int) : hornbeamlaw14_GiniMajors.f k l = some true := by
  unfold hornbeamlaw14_GiniMajors.f
  by_cases hl : (l.length : Int) > 300
  · rw [if_pos hl, fixed_f k (by omega), Option.bind_some]
  have hp : hornbeamref14_Pure.f k l = some (decide (MayG l ∧ cnt l ≤ 1)) := by
    unfold hornbeamref14_Pure.f
    have := rpure_l l (by omega) l.length k 0 0 (by omega) (by omega) (by omega) (by omega)
    rw [List.drop_zero, Int.zero_add] at this
    exact this
  have hm : ∃ r : Int, gini_Major.f k l = some r ∧ hornbeamref14_Major.f k l = some r := by
    unfold gini_Major.f hornbeamref14_Major.f
    rw [may_f l k (by omega), Option.bind_some, rmay_f l k (by omega), Option.bind_some]
    by_cases h : MayG l
    · have h1 := h.1; have h2 := h.2.1
      obtain ⟨r, e1, f1⟩ := major_l l h2 l.length k 0 0 (by omega) (by omega) (by omega) (fun j hj => by omega) (fun j hj => by omega) (by omega)
      obtain ⟨s, e2, f2⟩ := rmajor_l l h2 l.length k (l.length - 1) (by omega) (by omega) (by omega) (fun j hj hj2 => by omega) (fun j hj hj2 => by omega) (.inr ⟨rfl, by omega⟩)
      have := f1.uniq f2
      subst this
      refine ⟨r, by rw [decide_eq_true h, if_pos rfl]; exact e1, ?_⟩
      rw [decide_eq_true h, if_pos rfl, show wrap64 ((l.length : Int) - 1) = (l.length : Int) - 1 by unfold wrap64; omega]
      rw [show ((l.length - 1 : Nat) : Int) = (l.length : Int) - 1 by omega] at e2
      exact e2
    · exact ⟨0, by rw [decide_eq_false h, if_neg (by decide)], by rw [decide_eq_false h, if_neg (by decide)]⟩
  obtain ⟨r, e1, e2⟩ := hm
  rw [if_neg hl, fixed_f k (by omega), Option.bind_some, if_pos rfl, e1, Option.bind_some, e2, Option.bind_some, if_pos rfl, pure_f l k (by omega), Option.bind_some, hp, Option.bind_some, beq_self_eq_true]
end GiniMajors0
open GiniMajors0
theorem GiniMajors : hornbeamlaw14_GiniMajors.Pure := by
  intro l _ _ _
  exact ⟨1000, law_f 1000 (Nat.le_refl _) l⟩

end Go.Proofs.Ytpbgfmbkjojdeaa.Pure
