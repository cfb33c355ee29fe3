/- For all numbers a, b the law ProdBack answers true. No condition. -/
import Derived.Test.YtglicbpnmehloaaQProdBackx3
import Derived.Test.YtglicbpnmehloaaP64
namespace Go.Proofs.Ytglicbpnmehloaa.Pure
open Go.RowKit Go.Proofs.Ytglicbpnmehloaa.QProdBack Go.Proofs.YtglicbpnmehloaaW.PrintWords Go.Proofs.YtglicbpnmehloaaW.PrintLast
open Go.Proofs.Ytglicbpnmehloaa.P64
namespace ProdBack0
def In (n : Int) : Prop := -9223372036854775808 ≤ n ∧ n ≤ 9223372036854775807
theorem floor_f {a b : Int} (a0 : -9223372036854775808 ≤ a) (a1 : a ≤ 9223372036854775807) (hb : 1 ≤ b) : prod_Floor.f a b = some (a / b, 0) := by
  unfold prod_Floor.f
  rw [if_neg (by omega), if_neg (by omega)]
  exact floor_eq a0 a1 hb
theorem size_f (a : Int) : prod_size.f a = some (sizeI a) := by unfold prod_size.f sizeI; split <;> rfl
theorem mul_f (a b : Int) : prod_Mul.f a b = some (mul64 a b) := rfl
theorem square_f {a : Int} : prod_Square.f a = some (mul64 (sizeI a) (sizeI a)) := by
  unfold prod_Square.f
  rw [size_f, Option.bind_some, Option.bind_some, mul_f, Option.bind_some]
theorem fixed_f : hornbeamlaw04_fixed.f = some true := by
  unfold hornbeamlaw04_fixed.f
  rw [floor_f (by omega) (by omega) (by omega), Option.bind_some, if_pos rfl, if_pos (by decide), square_f, Option.bind_some, sizeI_eq (by omega) (by omega), mul64_eq (by omega) (by omega) (by omega) (by omega)]
  rfl
theorem plus_in {a b : Int} (ha : In a) (hb : In b) (h : In (a + b)) : prod_Plus.f a b = some (a + b, 0) := by
  unfold In at *
  unfold prod_Plus.f
  rw [wrap64_id h.1 h.2]
  split
  · rename_i h1
    rw [if_neg]
    rw [beq_iff_eq, decide_eq_decide] at h1
    rw [bne_iff_ne, ne_eq, decide_eq_decide]
    omega
  · rfl
theorem plus_out {a b : Int} (ha : In a) (hb : In b) (h : ¬ In (a + b)) : prod_Plus.f a b = some (0, 6) := by
  unfold In at *
  unfold prod_Plus.f
  rw [if_pos, if_pos]
  · rw [bne_iff_ne, ne_eq, decide_eq_decide]; unfold wrap64; omega
  · rw [beq_iff_eq, decide_eq_decide]; omega
theorem minus_in {a b : Int} (ha : In a) (hb : In b) (h : In (a - b)) : prod_Minus.f a b = some (a - b, 0) := by
  unfold In at *
  unfold prod_Minus.f
  rw [wrap64_id h.1 h.2]
  split
  · rename_i h1
    rw [if_neg]
    rw [bne_iff_ne, ne_eq, decide_eq_decide] at h1
    rw [bne_iff_ne, ne_eq, decide_eq_decide]
    omega
  · rfl
theorem minus_out {a b : Int} (ha : In a) (hb : In b) (h : ¬ In (a - b)) : prod_Minus.f a b = some (0, 6) := by
  unfold In at *
  unfold prod_Minus.f
  rw [if_pos, if_pos]
  · rw [bne_iff_ne, ne_eq, decide_eq_decide]; unfold wrap64; omega
  · rw [bne_iff_ne, ne_eq, decide_eq_decide]; omega
/-- A product's sign and size. -/
theorem mul_parts (a b : Int) : ∃ P : Int, 0 ≤ P ∧ (a.natAbs : Int) * b.natAbs = P ∧
    (((decide (a < 0)) != (decide (b < 0))) = true → a * b = -P) ∧ (((decide (a < 0)) != (decide (b < 0))) = false → a * b = P) := by
  refine ⟨_, Int.mul_nonneg (by omega) (by omega), rfl, ?_, ?_⟩
  · intro h
    rw [bne_iff_ne, ne_eq, decide_eq_decide] at h
    rcases Int.lt_or_le a 0 with h1 | h1
    · have e1 : (a.natAbs : Int) = -a := by omega
      have e2 : (b.natAbs : Int) = b := by omega
      rw [e1, e2, Int.neg_mul]; omega
    · have e1 : (a.natAbs : Int) = a := by omega
      have e2 : (b.natAbs : Int) = -b := by omega
      rw [e1, e2, Int.mul_neg]; omega
  · intro h
    rw [bne_eq_false_iff_eq, decide_eq_decide] at h
    rcases Int.lt_or_le a 0 with h1 | h1
    · have e1 : (a.natAbs : Int) = -a := by omega
      have e2 : (b.natAbs : Int) = -b := by omega
      rw [e1, e2, Int.neg_mul_neg]
    · have e1 : (a.natAbs : Int) = a := by omega
      have e2 : (b.natAbs : Int) = b := by omega
      rw [e1, e2]
theorem product_f (k : Nat) {a b : Int} (ha : In a) (hb : In b) :
    (In (a * b) → prod_Product.f (k + 1) a b = some (a * b, 0)) ∧ (¬ In (a * b) → prod_Product.f (k + 1) a b = some (0, 6)) := by
  obtain ⟨P, hP, e, h1, h2⟩ := mul_parts a b
  have hf : prod_Product.f (k + 1) a b = (if P / 18446744073709551616 = 0 then (if (((decide (a < 0)) != (decide (b < 0))) = true) then (prod_Product.j0 (k + 1) ((decide (a < 0)) != (decide (b < 0))) false (P / 18446744073709551616) (P % 18446744073709551616)) else (prod_Product.j0 (k + 1) ((decide (a < 0)) != (decide (b < 0))) (decide (P % 18446744073709551616 ≤ 9223372036854775807)) (P / 18446744073709551616) (P % 18446744073709551616))) else (some (0, 6))) := by
    unfold In at ha hb
    unfold prod_Product.f
    rw [size_f, Option.bind_some, size_f, Option.bind_some, mul_f, Option.bind_some, sizeI_eq ha.1 ha.2, sizeI_eq hb.1 hb.2, mul64_eq (by omega) (by omega) (by omega) (by omega), e]
  rw [hf]
  clear hf
  unfold In at *
  by_cases hs : ((decide (a < 0)) != (decide (b < 0))) = true
  · have e3 := h1 hs
    rw [e3, if_pos hs, hs]
    simp only [prod_Product.j0]
    clear e e3 h1 h2 hs
    constructor
    · intro h
      rw [if_pos (by omega), if_neg (by decide), if_pos True.intro, if_pos (by omega)]
      congr 2
      unfold wrap64; omega
    · intro h
      by_cases h0 : P / 18446744073709551616 = 0
      · rw [if_pos h0, if_neg (by decide), if_pos True.intro, if_neg (by omega)]
      · rw [if_neg h0]
  · have hs2 : ((decide (a < 0)) != (decide (b < 0))) = false := by simpa using hs
    have e3 := h2 hs2
    rw [e3, if_neg hs, hs2]
    simp only [prod_Product.j0, decide_eq_true_eq]
    clear e e3 h1 h2 hs hs2
    constructor
    · intro h
      rw [if_pos (by omega), if_pos (by omega)]
      congr 2
      unfold wrap64; omega
    · intro h
      by_cases h0 : P / 18446744073709551616 = 0
      · rw [if_pos h0, if_neg (by omega), if_neg (by decide)]
      · rw [if_neg h0]
theorem j1_f (k : Nat) {a b : Int} (ha : In a) (hb : In b) (x : Int) (hx : x = 0 ∨ x = 6) : hornbeamlaw04_ProdBack.j1 (k + 2) a b x = some true := by
  simp only [hornbeamlaw04_ProdBack.j1]
  have hx2 : ¬ (((x == 0) == (x == 6)) = true) := by rcases hx with rfl | rfl <;> decide
  have p1 := product_f k ha hb
  have p2 := product_f k hb ha
  rw [Int.mul_comm b a] at p2
  by_cases h : In (a * b)
  · rw [p1.1 h, Option.bind_some, p2.1 h, Option.bind_some, if_pos rfl, if_pos rfl, if_neg hx2, if_neg (show ¬ ((((0 : Int) == 0) == ((0 : Int) == 6)) = true) by decide), fixed_f, Option.bind_some, if_pos rfl, if_pos rfl]
    by_cases hb0 : b = 0
    · subst hb0
      rw [if_pos rfl, if_pos (Int.mul_zero a)]
    · unfold In at ha
      rw [if_neg hb0, Int.mul_tdiv_cancel _ hb0, wrap64_id ha.1 ha.2, if_pos rfl, if_pos (Int.mul_tmod_left a b)]
  · rw [p1.2 h, Option.bind_some, p2.2 h, Option.bind_some, if_pos rfl, if_pos rfl, if_neg hx2, if_neg (show ¬ ((((6 : Int) == 0) == ((6 : Int) == 6)) = true) by decide), fixed_f, Option.bind_some, if_pos rfl, if_neg (show ¬ ((6 : Int) = 0) by decide)]
    have ha0 : a ≠ 0 := by rintro rfl; rw [Int.zero_mul] at h; exact h (by unfold In; omega)
    have hb0 : b ≠ 0 := by rintro rfl; rw [Int.mul_zero] at h; exact h (by unfold In; omega)
    rw [if_neg ha0, bne_iff_ne.2 hb0]
theorem j0_f (k : Nat) {a b : Int} (ha : In a) (hb : In b) (x : Int) (hx : x = 0 ∨ x = 6) : hornbeamlaw04_ProdBack.j0 (k + 3) a b x = some true := by
  simp only [hornbeamlaw04_ProdBack.j0]
  by_cases h : In (a - b)
  · have h2 : In (a - b + b) := by rw [Int.sub_add_cancel]; exact ha
    rw [minus_in ha hb h, Option.bind_some, if_pos rfl, plus_in h hb h2, Option.bind_some, if_pos rfl, if_pos (Int.sub_add_cancel a b)]
    exact j1_f k ha hb x hx
  · rw [minus_out ha hb h, Option.bind_some, if_neg (show ¬ ((6 : Int) = 0) by decide)]
    exact j1_f k ha hb x hx
end ProdBack0
open ProdBack0
theorem ProdBack : hornbeamlaw04_ProdBack.Pure := by
  intro a b ha hb
  have ha := wf_i64 ha
  have hb := wf_i64 hb
  obtain ⟨k, hk⟩ : ∃ k : Nat, k = 0 := ⟨0, rfl⟩
  refine ⟨k + 3, ?_⟩
  unfold hornbeamlaw04_ProdBack.f
  by_cases h : In (a + b)
  · have h2 : In (a + b - b) := by rw [Int.add_sub_cancel]; exact ha
    rw [plus_in ha hb h, Option.bind_some, if_pos rfl, minus_in h hb h2, Option.bind_some, if_pos rfl, if_pos (Int.add_sub_cancel a b)]
    exact j0_f k ha hb _ (.inl rfl)
  · rw [plus_out ha hb h, Option.bind_some, if_neg (show ¬ ((6 : Int) = 0) by decide)]
    exact j0_f k ha hb _ (.inr rfl)

end Go.Proofs.Ytglicbpnmehloaa.Pure
