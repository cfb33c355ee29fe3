/- For all numbers a, b, n the law ProdTurns answers true. No condition. -/
import Derived.Test.YtglicbpnmehloaaQProdTurnsx4
import Derived.Test.YtglicbpnmehloaaP64
namespace Go.Proofs.Ytglicbpnmehloaa.Pure
open Go.RowKit Go.Proofs.Ytglicbpnmehloaa.QProdTurns Go.Proofs.YtglicbpnmehloaaW.PrintWords Go.Proofs.YtglicbpnmehloaaW.PrintLast
open Go.Proofs.Ytglicbpnmehloaa.P64
namespace ProdTurns0
theorem mul_f (a b : Int) : prod_Mul.f a b = some (mul64 a b) := rfl
theorem mul_eq {a b : Int} (a0 : 0 ≤ a) (a1 : a < 18446744073709551616) (b0 : 0 ≤ b) (b1 : b < 18446744073709551616) :
    prod_Mul.f a b = some (a * b / 18446744073709551616, a * b % 18446744073709551616) := by rw [mul_f, mul64_eq a0 a1 b0 b1]
theorem size_f (a : Int) : prod_size.f a = some (sizeI a) := by unfold prod_size.f sizeI; split <;> rfl
theorem square_f {a : Int} : prod_Square.f a = some (mul64 (sizeI a) (sizeI a)) := by
  unfold prod_Square.f
  rw [size_f, Option.bind_some, Option.bind_some, mul_f, Option.bind_some]
theorem floor_f {a b : Int} (a0 : -9223372036854775808 ≤ a) (a1 : a ≤ 9223372036854775807) (hb : 1 ≤ b) : prod_Floor.f a b = some (a / b, 0) := by
  unfold prod_Floor.f
  rw [if_neg (by omega), if_neg (by omega)]
  exact floor_eq a0 a1 hb
theorem fixed_f : hornbeamlaw04_fixed.f = some true := by
  unfold hornbeamlaw04_fixed.f
  rw [floor_f (by omega) (by omega) (by omega), Option.bind_some, if_pos rfl, if_pos (by decide), square_f, Option.bind_some, sizeI_eq (by omega) (by omega), mul64_eq (by omega) (by omega) (by omega) (by omega)]
  rfl
theorem add64_f {a b c : Int} (a0 : 0 ≤ a) (b0 : 0 ≤ b) (c0 : 0 ≤ c) (c1 : c ≤ 1) : bits_Add64.f a b c = some ((a + b + c) % 18446744073709551616, (a + b + c) / 18446744073709551616) := by
  unfold bits_Add64.f
  rw [if_pos ⟨a0, b0, c0, c1⟩]
theorem times_f {h l n : Int} (h0 : 0 ≤ h) (h1 : h < 18446744073709551616) (l0 : 0 ≤ l) (l1 : l < 18446744073709551616) (n0 : 0 ≤ n) (n1 : n < 18446744073709551616) :
    prod_Times.f h l n = some (longD ((h * 18446744073709551616 + l) * n)) := by
  unfold prod_Times.f
  rw [show bits_Mul64.f l n = some (mul64 l n) from rfl, show bits_Mul64.f h n = some (mul64 h n) from rfl, Option.bind_some, Option.bind_some, mul64_eq l0 l1 n0 n1, mul64_eq h0 h1 n0 n1]
  have p1 := mul_bound64 l0 l1 n0 n1
  have p2 := mul_bound64 h0 h1 n0 n1
  have e : (h * 18446744073709551616 + l) * n = (h * n) * 18446744073709551616 + l * n := by rw [Int.add_mul, Int.mul_right_comm]
  rw [e]
  unfold longD
  generalize h * n = q at *
  generalize l * n = p at *
  rw [add64_f (by omega) (by omega) (by omega) (by omega), Option.bind_some, uwrap_id (by omega) (by omega)]
  simp only [Option.some.injEq, Prod.mk.injEq]
  omega
theorem add_f {a b c d : Int} (a0 : 0 ≤ a) (a1 : a < 18446744073709551616) (b0 : 0 ≤ b) (b1 : b < 18446744073709551616) (c0 : 0 ≤ c) (c1 : c < 18446744073709551616) (d0 : 0 ≤ d) (d1 : d < 18446744073709551616) :
    prod_Add.f a b c d = some (wideSum (a * 18446744073709551616 + b + (c * 18446744073709551616 + d))) := by
  unfold prod_Add.f
  rw [add64_f b0 d0 (by omega) (by omega), Option.bind_some, add64_f a0 c0 (by omega) (by omega), Option.bind_some]
  unfold wideSum
  have e1 : (b + d + 0) / 18446744073709551616 = (b + d) / 18446744073709551616 := by rw [Int.add_zero]
  have e2 : (a * 18446744073709551616 + b + (c * 18446744073709551616 + d)) / 18446744073709551616 = a + c + (b + d) / 18446744073709551616 := by omega
  have e3 : (a * 18446744073709551616 + b + (c * 18446744073709551616 + d)) % 18446744073709551616 = (b + d) % 18446744073709551616 := by omega
  rw [e1, e2, e3, Int.add_zero]
  by_cases h : (a + c + (b + d) / 18446744073709551616) / 18446744073709551616 = 0
  · rw [if_pos h, if_pos (by omega), Int.emod_eq_of_lt (a := a + c + (b + d) / 18446744073709551616) (by omega) (by omega)]
  · rw [if_neg h, if_neg (by omega)]
theorem compare_f (a b : Int) : cmp_Compare_uint64.f a b = some (cmpI a b) := by
  unfold cmp_Compare_uint64.f cmp_isNaN_uint64.f cmpI
  rw [Option.bind_some, Option.bind_some, if_neg (by simp), if_neg (by simp)]
  split
  · rfl
  · split <;> rfl
theorem cmplong_f {X Y : Int} (_x0 : 0 ≤ X) (_y0 : 0 ≤ Y) : prod_CmpLong.f (longD X).1 (longD X).2.1 (longD X).2.2 (longD Y).1 (longD Y).2.1 (longD Y).2.2 = some (cmpI X Y) := by
  unfold prod_CmpLong.f longD
  simp only [compare_f]
  unfold cmpI
  have hx := Int.mul_ediv_add_emod X 18446744073709551616
  have hy := Int.mul_ediv_add_emod Y 18446744073709551616
  have hx2 := Int.mul_ediv_add_emod (X / 18446744073709551616) 18446744073709551616
  have hy2 := Int.mul_ediv_add_emod (Y / 18446744073709551616) 18446744073709551616
  have b1 := Int.emod_nonneg X (b := 18446744073709551616) (by decide)
  have b2 := Int.emod_lt_of_pos X (b := 18446744073709551616) (by decide)
  have b3 := Int.emod_nonneg Y (b := 18446744073709551616) (by decide)
  have b4 := Int.emod_lt_of_pos Y (b := 18446744073709551616) (by decide)
  have b5 := Int.emod_nonneg (X / 18446744073709551616) (b := 18446744073709551616) (by decide)
  have b6 := Int.emod_lt_of_pos (X / 18446744073709551616) (b := 18446744073709551616) (by decide)
  have b7 := Int.emod_nonneg (Y / 18446744073709551616) (b := 18446744073709551616) (by decide)
  have b8 := Int.emod_lt_of_pos (Y / 18446744073709551616) (b := 18446744073709551616) (by decide)
  generalize X % 18446744073709551616 = u0 at *
  generalize Y % 18446744073709551616 = v0 at *
  generalize X / 18446744073709551616 % 18446744073709551616 = u1 at *
  generalize Y / 18446744073709551616 % 18446744073709551616 = v1 at *
  generalize X / 18446744073709551616 / 18446744073709551616 = u2 at *
  generalize Y / 18446744073709551616 / 18446744073709551616 = v2 at *
  generalize X / 18446744073709551616 = p at *
  generalize Y / 18446744073709551616 = q at *
  by_cases h2 : u2 = v2
  · rw [if_pos h2]
    by_cases h1 : u1 = v1
    · rw [if_pos h1]
      by_cases h0 : u0 = v0
      · rw [if_pos h0, if_neg (by omega), if_neg (by omega)]
      · rw [if_neg h0]
        rcases Int.lt_or_gt_of_ne h0 with h | h
        · rw [if_pos h, if_pos (by omega)]
        · rw [if_neg (by omega), if_pos h, if_neg (by omega), if_pos (by omega)]
    · rw [if_neg h1]
      rcases Int.lt_or_gt_of_ne h1 with h | h
      · rw [if_pos h, if_pos (by omega)]
      · rw [if_neg (by omega), if_pos h, if_neg (by omega), if_pos (by omega)]
  · rw [if_neg h2]
    rcases Int.lt_or_gt_of_ne h2 with h | h
    · rw [if_pos h, if_pos (by omega)]
    · rw [if_neg (by omega), if_pos h, if_neg (by omega), if_pos (by omega)]
/-- What both sides of the law come to. -/
theorem tail_f (L M : Int × Int × Int) (S : Int × Int × Int) (X : Int) (x0 : 0 ≤ X) (hL : L = longD X) (hM : M = longD X) (T : Int × Int × Int) (hT : T = S) (o w : Int) (ho : o = w) :
    ((hornbeamlaw04_fixed.f).bind fun t167 => (if t167 = true then (if (L.1 == M.1 && (L.2.1 == M.2.1 && (L.2.2 == M.2.2))) = true then ((prod_CmpLong.f L.1 L.2.1 L.2.2 M.1 M.2.1 M.2.2).bind fun t168 => (if t168 = 0 then (if (S.1 == T.1 && (S.2.1 == T.2.1)) = true then (if S.2.2 = T.2.2 then (some (o == w)) else (some false)) else (some false)) else (some false))) else (some false)) else (some false))) = some true := by
  subst hL hM hT ho
  have hc : cmpI X X = 0 := by unfold cmpI; rw [if_neg (by omega), if_neg (by omega)]
  rw [fixed_f, Option.bind_some, if_pos rfl, if_pos (by simp), cmplong_f x0 x0, Option.bind_some, hc, if_pos rfl, if_pos (by simp), if_pos rfl, beq_self_eq_true]
theorem cmp_mul {a b n : Int} (hn : 0 ≤ n) : cmpI (a * n) (b * n) = if n > 0 ∧ a < b then -1 else if n > 0 ∧ a > b then 1 else 0 := by
  unfold cmpI
  by_cases h : n > 0
  · have k1 : a * n < b * n ↔ a < b := ⟨fun h1 => Int.lt_of_mul_lt_mul_right h1 hn, fun h1 => Int.mul_lt_mul_of_pos_right h1 h⟩
    have k2 : b * n < a * n ↔ b < a := ⟨fun h1 => Int.lt_of_mul_lt_mul_right h1 hn, fun h1 => Int.mul_lt_mul_of_pos_right h1 h⟩
    by_cases h1 : a < b
    · rw [if_pos (k1.2 h1), if_pos ⟨h, h1⟩]
    · rw [if_neg (show ¬ (a * n < b * n) from fun h2 => h1 (k1.1 h2)), if_neg (show ¬ (n > 0 ∧ a < b) from fun h2 => h1 h2.2)]
      by_cases h2 : b < a
      · rw [if_pos (k2.2 h2), if_pos ⟨h, h2⟩]
      · rw [if_neg (show ¬ (b * n < a * n) from fun h3 => h2 (k2.1 h3)), if_neg (show ¬ (n > 0 ∧ a > b) from fun h3 => h2 h3.2)]
  · have : n = 0 := by omega
    subst this
    simp
theorem law_f (k : Nat) {a b n : Int} (a0 : 0 ≤ a) (a1 : a < 18446744073709551616) (b0 : 0 ≤ b) (b1 : b < 18446744073709551616) (n0 : 0 ≤ n) (n1 : n < 18446744073709551616) :
    hornbeamlaw04_ProdTurns.f (k + 2) a b n = some true := by
  have bd := mul_bound64 a0 a1 b0 b1
  have bd2 := mul_bound64 n0 n1 a0 a1
  have bd3 := mul_bound64 n0 n1 n0 n1
  have x0 : 0 ≤ a * b * n := Int.mul_nonneg bd.1 n0
  have e1 : a * b / 18446744073709551616 * 18446744073709551616 + a * b % 18446744073709551616 = a * b := by omega
  have e2 : n * a / 18446744073709551616 * 18446744073709551616 + n * a % 18446744073709551616 = n * a := by omega
  have e3 : n * n / 18446744073709551616 * 18446744073709551616 + n * n % 18446744073709551616 = n * n := by omega
  have f1 : n * a * b = a * b * n := by rw [Int.mul_assoc, Int.mul_comm]
  have f2 : b * a = a * b := Int.mul_comm _ _
  have f3 : n * n + a * b = a * b + n * n := Int.add_comm _ _
  have hw := cmp_mul (a := a) (b := b) n0
  unfold hornbeamlaw04_ProdTurns.f
  rw [mul_eq a0 a1 b0 b1, Option.bind_some, times_f (by omega) (by omega) (by omega) (by omega) n0 n1, Option.bind_some, mul_eq n0 n1 a0 a1, Option.bind_some,
    times_f (by omega) (by omega) (by omega) (by omega) b0 b1, Option.bind_some, Option.bind_some, mul_eq n0 n1 n0 n1, Option.bind_some,
    add_f (by omega) (by omega) (by omega) (by omega) (by omega) (by omega) (by omega) (by omega), Option.bind_some, Option.bind_some, mul_eq b0 b1 a0 a1, Option.bind_some, f2,
    add_f (by omega) (by omega) (by omega) (by omega) (by omega) (by omega) (by omega) (by omega), Option.bind_some,
    times_f (by omega) (by omega) a0 a1 n0 n1, Option.bind_some, times_f (by omega) (by omega) b0 b1 n0 n1, Option.bind_some, Int.zero_mul, Int.zero_add, Int.zero_add,
    cmplong_f (Int.mul_nonneg a0 n0) (Int.mul_nonneg b0 n0), Option.bind_some, e1, e2, e3, f1, f3, hw]
  have j1 : ∀ (o : Int) (c : Bool) (m : Nat), (o = if c = true then 1 else 0) → hornbeamlaw04_ProdTurns.j1 (m + 1) (wideSum (a * b + n * n)).2.2 (wideSum (a * b + n * n)).2.2 o 0 c (longD (a * b * n)).1 (longD (a * b * n)).2.1 (longD (a * b * n)).2.2 (longD (a * b * n)).1 (longD (a * b * n)).2.1 (longD (a * b * n)).2.2 (wideSum (a * b + n * n)).1 (wideSum (a * b + n * n)).2.1 (wideSum (a * b + n * n)).1 (wideSum (a * b + n * n)).2.1 = some true := by
    intro o c m ho
    rw [hornbeamlaw04_ProdTurns.j1]
    cases c with
    | true => rw [if_pos rfl]; exact tail_f _ _ _ _ x0 rfl rfl _ rfl _ _ (by simpa using ho)
    | false => rw [if_neg (by decide)]; exact tail_f _ _ _ _ x0 rfl rfl _ rfl _ _ (by simpa using ho)
  by_cases h : n > 0
  · rw [if_pos h]
    rw [hornbeamlaw04_ProdTurns.j0]
    by_cases h1 : a < b
    · rw [if_pos (decide_eq_true h1), if_pos (show n > 0 ∧ a < b from ⟨h, h1⟩)]
      exact tail_f _ _ _ _ x0 rfl rfl _ rfl _ _ rfl
    · rw [if_neg (by simpa using h1), if_pos h, if_neg (show ¬ (n > 0 ∧ a < b) from fun h2 => h1 h2.2)]
      refine j1 _ _ _ ?_
      by_cases h2 : a > b
      · rw [if_pos ⟨h, h2⟩, if_pos (decide_eq_true h2)]
      · rw [if_neg (show ¬ (n > 0 ∧ a > b) from fun h3 => h2 h3.2), if_neg (by simpa using h2)]
  · rw [if_neg h]
    rw [hornbeamlaw04_ProdTurns.j0]
    rw [if_neg (by decide), if_neg h, if_neg (show ¬ (n > 0 ∧ a < b) from fun h2 => h h2.1), if_neg (show ¬ (n > 0 ∧ a > b) from fun h2 => h h2.1)]
    exact j1 _ _ _ (by decide)
end ProdTurns0
open ProdTurns0
theorem ProdTurns : hornbeamlaw04_ProdTurns.Pure := by
  intro a b n ha hb hn
  obtain ⟨a0, a1⟩ := wf_u64 ha
  obtain ⟨b0, b1⟩ := wf_u64 hb
  obtain ⟨n0, n1⟩ := wf_u64 hn
  exact ⟨0 + 2, law_f 0 a0 a1 b0 b1 n0 n1⟩

end Go.Proofs.Ytglicbpnmehloaa.Pure
