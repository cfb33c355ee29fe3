/- For all three lists of numbers and every number that is added the law SpreadShift answers true. No condition. -/
import Derived.Test.YtoonddgldmfleaaQSpreadShiftx6
import Derived.Test.YtoonddgldmfleaaP64
import Derived.Test.YtoonddgldmfleaaDig
import Derived.Test.YtoonddgldmfleaaSums
namespace Go.Proofs.Ytoonddgldmfleaa.Pure
open Go.RowKit Go.Proofs.Ytoonddgldmfleaa.QSpreadShift Go.Proofs.YtoonddgldmfleaaW.PrintWords Go.Proofs.YtoonddgldmfleaaW.PrintLast
open Go.Proofs.Ytoonddgldmfleaa.P64 Go.Proofs.Ytoonddgldmfleaa.Dig Go.Proofs.Ytoonddgldmfleaa.Sums
namespace SpreadShift0
theorem compare_f (a b : Int) : cmp_Compare_uint64.f a b = some (cmpI a b) := by
  unfold cmp_Compare_uint64.f cmp_isNaN_uint64.f cmpI
  rw [Option.bind_some, Option.bind_some, if_neg (by simp), if_neg (by simp)]
  split
  · rfl
  · split <;> rfl
theorem or_f (k : Nat) (hk : 3 ≤ k) (a b : Int) : cmp_Or_int.f k [a, b] = some (if a = 0 then b else a) := by
  obtain ⟨k, rfl⟩ : ∃ m, k = m + 3 := ⟨k - 3, by omega⟩
  unfold cmp_Or_int.f
  rw [cmp_Or_int.l0, if_pos (by simp), if_pos (by omega), if_pos (by simp)]
  rw [show rd [a, b] 0 = a from rfl, show wrap64 (0 + 1) = 1 by unfold wrap64; omega]
  by_cases ha : a = 0
  · rw [if_pos ha, cmp_Or_int.l0, if_pos (by simp), if_pos (by omega), if_pos (by simp), show rd [a, b] 1 = b from rfl, show wrap64 (1 + 1) = 2 by unfold wrap64; omega, if_pos ha]
    by_cases hb : b = 0
    · rw [if_pos hb, cmp_Or_int.l0, if_neg (by simp), hb]
    · rw [if_neg hb]
  · rw [if_neg ha, if_neg ha]
theorem cmp_f (k : Nat) (hk : 3 ≤ k) (X Y : Int) : prod_Cmp.f k (X / 18446744073709551616) (X % 18446744073709551616) (Y / 18446744073709551616) (Y % 18446744073709551616) = some (cmpI X Y) := by
  unfold prod_Cmp.f
  rw [compare_f, Option.bind_some, compare_f, Option.bind_some, or_f k hk, Option.bind_some]
  congr 1
  unfold cmpI
  by_cases h1 : X / 18446744073709551616 < Y / 18446744073709551616
  · rw [if_pos h1, if_neg (by decide), if_pos (by omega)]
  · rw [if_neg h1]
    by_cases h2 : Y / 18446744073709551616 < X / 18446744073709551616
    · rw [if_pos h2, if_neg (by decide), if_neg (by omega), if_pos (by omega)]
    · rw [if_neg h2, if_pos rfl]
      by_cases h3 : X % 18446744073709551616 < Y % 18446744073709551616
      · rw [if_pos h3, if_pos (by omega)]
      · rw [if_neg h3, if_neg (show ¬ X < Y by omega)]
        by_cases h4 : Y % 18446744073709551616 < X % 18446744073709551616
        · rw [if_pos h4, if_pos (by omega)]
        · rw [if_neg h4, if_neg (by omega)]
theorem size_f (a : Int) : prod_size.f a = some (sizeI a) := by unfold prod_size.f sizeI; split <;> rfl
theorem mul_f (a b : Int) : prod_Mul.f a b = some (mul64 a b) := rfl
/-- A wide number's words. -/
def wideD (X : Int) : Int × Int := (X / 18446744073709551616, X % 18446744073709551616)
theorem square_f {a : Int} (a0 : -9223372036854775808 ≤ a) (a1 : a ≤ 9223372036854775807) : prod_Square.f a = some (wideD (a * a)) := by
  unfold prod_Square.f wideD
  rw [size_f, Option.bind_some, Option.bind_some, mul_f, Option.bind_some, sizeI_eq a0 a1, mul64_eq (by omega) (by omega) (by omega) (by omega), Int.natAbs_mul_self']
/-- May these be a moment's numbers? -/
def MayP (c s q : Int) : Prop := (c = 0 ∧ s = 0 ∧ q = 0) ∨ (1 ≤ c ∧ c ≤ 1048576 ∧ 0 ≤ q ∧ q ≤ 1099511627776 * c ∧ -(1048576 * c) ≤ s ∧ s ≤ 1048576 * c ∧ s * s ≤ c * q)
instance (c s q : Int) : Decidable (MayP c s q) := by unfold MayP; exact inferInstance
def InI (n : Int) : Prop := -9223372036854775808 ≤ n ∧ n ≤ 9223372036854775807
theorem bound_f {c s q : Int} (c0 : 0 ≤ c) (c1 : c ≤ 9223372036854775807) (q0 : 0 ≤ q) (q1 : q ≤ 9223372036854775807) : spread_bound.f c s q = some (wideD (c * q)) := by
  unfold spread_bound.f wideD
  rw [uwrap_id c0 (by omega), uwrap_id q0 (by omega), mul_f, Option.bind_some, mul64_eq (by omega) (by omega) (by omega) (by omega)]
theorem may_f (k : Nat) (hk : 10 ≤ k) {c s q : Int} (hc : InI c) (hs : InI s) (hq : InI q) : spread_May.f k c s q = some (decide (MayP c s q)) := by
  unfold InI at hc hs hq
  obtain ⟨k, rfl⟩ : ∃ m, k = m + 5 := ⟨k - 5, by omega⟩
  unfold spread_May.f spread_none.f
  rw [Option.bind_some]
  by_cases h0 : c = 0 ∧ s = 0 ∧ q = 0
  · obtain ⟨rfl, rfl, rfl⟩ := h0
    rw [if_pos (by decide), decide_eq_true (show MayP 0 0 0 from .inl ⟨rfl, rfl, rfl⟩)]
  · rw [if_neg (by simpa using h0)]
    have jt : ∀ m, spread_May.j0 (m + 1) true c s q = some false := fun m => by rw [spread_May.j0, if_pos rfl]
    by_cases h1 : c < 1
    · rw [if_pos h1, jt, decide_eq_false]
      rintro (h | h)
      · exact h0 h
      · omega
    · rw [if_neg h1]
      by_cases h2 : c > 1048576
      · rw [if_pos h2, jt, decide_eq_false]
        rintro (h | h)
        · exact h0 h
        · omega
      · rw [if_neg h2]
        by_cases h3 : q < 0
        · rw [if_pos h3, jt, decide_eq_false]
          rintro (h | h)
          · exact h0 h
          · omega
        · rw [if_neg h3, wrap64_id (n := 1099511627776 * c) (by omega) (by omega)]
          by_cases h4 : q > 1099511627776 * c
          · rw [decide_eq_true h4, jt, decide_eq_false]
            rintro (h | h)
            · exact h0 h
            · omega
          · rw [decide_eq_false h4, spread_May.j0, if_neg (by decide), wrap64_id (n := 1048576 * c) (by omega) (by omega), wrap64_id (n := -1048576 * c) (by omega) (by omega)]
            have jt2 : ∀ m, spread_May.j1 (m + 1) true c s q = some false := fun m => by rw [spread_May.j1, if_pos rfl]
            by_cases h5 : s > 1048576 * c
            · rw [if_pos h5, jt2, decide_eq_false]
              rintro (h | h)
              · exact h0 h
              · omega
            · rw [if_neg h5]
              by_cases h6 : s < -1048576 * c
              · rw [decide_eq_true h6, jt2, decide_eq_false]
                rintro (h | h)
                · exact h0 h
                · omega
              · rw [decide_eq_false h6, spread_May.j1, if_neg (by decide), square_f hs.1 hs.2, Option.bind_some, bound_f (by omega) (by omega) (by omega) (by omega), Option.bind_some]
                unfold wideD
                rw [cmp_f _ (by omega), Option.bind_some]
                congr 1
                rw [decide_eq_decide]
                unfold cmpI MayP
                constructor
                · intro h
                  refine .inr ⟨by omega, by omega, by omega, by omega, by omega, by omega, ?_⟩
                  by_cases h7 : s * s < c * q
                  · omega
                  · rw [if_neg h7] at h
                    by_cases h8 : c * q < s * s
                    · rw [if_pos h8] at h; omega
                    · omega
                · rintro (h | ⟨_, _, _, _, _, _, h⟩)
                  · exact absurd h h0
                  · split
                    · omega
                    · rw [if_neg (by omega)]; omega
theorem there_f (k : Nat) (hk : 10 ≤ k) {c s q : Int} (hc : InI c) (hs : InI s) (hq : InI q) : spread_there.f k c s q = some (decide (0 < c ∧ MayP c s q)) := by
  unfold spread_there.f
  by_cases h : c > 0
  · rw [if_pos h, may_f k hk hc hs hq, Option.bind_some]
    congr 1
    rw [decide_eq_decide]
    exact ⟨fun h1 => ⟨h, h1⟩, fun h1 => h1.2⟩
  · rw [if_neg h, decide_eq_false (fun h1 => h h1.1)]
theorem floor_f {a b : Int} (a0 : -9223372036854775808 ≤ a) (a1 : a ≤ 9223372036854775807) (hb : 1 ≤ b) : prod_Floor.f a b = some (a / b, 0) := by
  unfold prod_Floor.f
  rw [if_neg (by omega), if_neg (by omega)]
  exact floor_eq a0 a1 hb
theorem mean_f (k : Nat) (hk : 10 ≤ k) {c s q : Int} (hc : InI c) (hs : InI s) (hq : InI q) : spread_Mean.f k c s q = some (if 0 < c ∧ MayP c s q then (s / c, true) else (0, false)) := by
  unfold spread_Mean.f
  rw [there_f k hk hc hs hq, Option.bind_some]
  by_cases h : 0 < c ∧ MayP c s q
  · rw [decide_eq_true h, if_pos rfl, if_pos h, floor_f hs.1 hs.2 (by omega), Option.bind_some]
  · rw [decide_eq_false h, if_neg (by decide), if_neg h]
theorem alone_f (k : Nat) (hk : 10 ≤ k) {c s q : Int} (hc : InI c) (hs : InI s) (hq : InI q) : spread_Alone.f k c s q = some (if 0 < c ∧ MayP c s q then ((wideD (s * s)).1, (wideD (s * s)).2, c) else (0, 0, 0)) := by
  unfold spread_Alone.f
  rw [there_f k hk hc hs hq, Option.bind_some]
  by_cases h : 0 < c ∧ MayP c s q
  · unfold InI at hc hs
    rw [decide_eq_true h, if_pos rfl, if_pos h, square_f hs.1 hs.2, Option.bind_some, uwrap_id (by omega) (by omega)]
  · rw [decide_eq_false h, if_neg (by decide), if_neg h]
theorem fixed_f (k : Nat) (hk : 10 ≤ k) : hornbeamlaw15_fixed.f k = some true := by
  have hm : (0 : Int) < 3 ∧ MayP 3 7 19 := by decide
  unfold hornbeamlaw15_fixed.f
  rw [mean_f k hk (by unfold InI; omega) (by unfold InI; omega) (by unfold InI; omega), Option.bind_some, alone_f k hk (by unfold InI; omega) (by unfold InI; omega) (by unfold InI; omega), Option.bind_some, if_pos hm, if_pos hm]
  rfl
theorem add64_f {a b c : Int} (a0 : 0 ≤ a) (b0 : 0 ≤ b) (c0 : 0 ≤ c) (c1 : c ≤ 1) : bits_Add64.f a b c = some ((a + b + c) % 18446744073709551616, (a + b + c) / 18446744073709551616) := by
  unfold bits_Add64.f
  rw [if_pos ⟨a0, b0, c0, c1⟩]
theorem times_f {h l n : Int} (h0 : 0 ≤ h) (h1 : h < 18446744073709551616) (l0 : 0 ≤ l) (l1 : l < 18446744073709551616) (n0 : 0 ≤ n) (n1 : n < 18446744073709551616) :
    prod_Times.f h l n = some (longD ((h * 18446744073709551616 + l) * n)) := by
  unfold prod_Times.f
  rw [show bits_Mul64.f l n = some (mul64 l n) from rfl, show bits_Mul64.f h n = some (mul64 h n) from rfl, Option.bind_some, Option.bind_some, mul64_eq l0 l1 n0 n1, mul64_eq h0 h1 n0 n1]
  have p1 := mul_bound64 l0 l1 n0 n1
  have p2 := mul_bound64 h0 h1 n0 n1
  have e : (h * 18446744073709551616 + l) * n = (h * n) * 18446744073709551616 + l * n := by rw [Int.add_mul, Int.mul_right_comm]
  rw [e]
  unfold longD
  generalize h * n = q at *
  generalize l * n = p at *
  rw [add64_f (by omega) (by omega) (by omega) (by omega), Option.bind_some, uwrap_id (by omega) (by omega)]
  simp only [Option.some.injEq, Prod.mk.injEq]
  omega
theorem add_f {a b c d : Int} (a0 : 0 ≤ a) (a1 : a < 18446744073709551616) (b0 : 0 ≤ b) (b1 : b < 18446744073709551616) (c0 : 0 ≤ c) (c1 : c < 18446744073709551616) (d0 : 0 ≤ d) (d1 : d < 18446744073709551616) :
    prod_Add.f a b c d = some (wideSum (a * 18446744073709551616 + b + (c * 18446744073709551616 + d))) := by
  unfold prod_Add.f
  rw [add64_f b0 d0 (by omega) (by omega), Option.bind_some, add64_f a0 c0 (by omega) (by omega), Option.bind_some]
  unfold wideSum
  have e1 : (b + d + 0) / 18446744073709551616 = (b + d) / 18446744073709551616 := by rw [Int.add_zero]
  have e2 : (a * 18446744073709551616 + b + (c * 18446744073709551616 + d)) / 18446744073709551616 = a + c + (b + d) / 18446744073709551616 := by omega
  have e3 : (a * 18446744073709551616 + b + (c * 18446744073709551616 + d)) % 18446744073709551616 = (b + d) % 18446744073709551616 := by omega
  rw [e1, e2, e3, Int.add_zero]
  by_cases h : (a + c + (b + d) / 18446744073709551616) / 18446744073709551616 = 0
  · rw [if_pos h, if_pos (by omega), Int.emod_eq_of_lt (a := a + c + (b + d) / 18446744073709551616) (by omega) (by omega)]
  · rw [if_neg h, if_neg (by omega)]
theorem there_bound {c s q : Int} (h : 0 < c ∧ MayP c s q) : c ≤ 1048576 ∧ 0 ≤ s * s ∧ s * s ≤ 1208925819614629174706176 := by
  obtain ⟨h0, h | h⟩ := h
  · omega
  · have e : s * s = (s.natAbs : Int) * s.natAbs := (Int.natAbs_mul_self' s).symm
    have := Int.mul_le_mul (a := (s.natAbs : Int)) (b := (s.natAbs : Int)) (c := 1099511627776) (d := 1099511627776) (by omega) (by omega) (by omega) (by omega)
    have := sq_nonneg' s
    omega
theorem sside_f {c s q c2 s2 q2 : Int} (hs : InI s) (h : 0 < c ∧ MayP c s q) (h2 : 0 < c2 ∧ MayP c2 s2 q2) : spread_side.f c s q c2 s2 q2 = some (wideD (s * s * c2)) := by
  have b := there_bound h; have b2 := there_bound h2
  have hb : 0 ≤ s * s * c2 ∧ s * s * c2 ≤ 1208925819614629174706176 * 1048576 := ⟨Int.mul_nonneg b.2.1 (by omega), Int.mul_le_mul b.2.2 b2.1 (by omega) (by omega)⟩
  unfold spread_side.f
  rw [square_f hs.1 hs.2, Option.bind_some, uwrap_id (by omega) (by omega)]
  unfold wideD
  rw [times_f (h := s * s / 18446744073709551616) (l := s * s % 18446744073709551616) (n := c2) (by omega) (by omega) (by omega) (by omega) (by omega) (by omega), Option.bind_some]
  have e : s * s / 18446744073709551616 * 18446744073709551616 + s * s % 18446744073709551616 = s * s := by omega
  rw [e]
  unfold longD
  rw [Int.emod_eq_of_lt (a := s * s * c2 / 18446744073709551616) (by omega) (by omega)]
theorem score_f (k : Nat) (hk : 12 ≤ k) {c s q c2 s2 q2 : Int} (hc : InI c) (hs : InI s) (hq : InI q) (hc2 : InI c2) (hs2 : InI s2) (hq2 : InI q2) :
    spread_Score.f k c s q c2 s2 q2 = some (if (0 < c ∧ MayP c s q) ∧ (0 < c2 ∧ MayP c2 s2 q2) then ((wideD (s * s * c2 + s2 * s2 * c)).1, (wideD (s * s * c2 + s2 * s2 * c)).2, c * c2) else (0, 0, 0)) := by
  obtain ⟨k, rfl⟩ : ∃ m, k = m + 1 := ⟨k - 1, by omega⟩
  have jt : spread_Score.j0 (k + 1) true c s q c2 s2 q2 = some (0, 0, 0) := by rw [spread_Score.j0, if_pos rfl]
  unfold spread_Score.f
  rw [there_f _ (by omega) hc hs hq, Option.bind_some]
  by_cases h : 0 < c ∧ MayP c s q
  · rw [decide_eq_true h, if_pos rfl, there_f _ (by omega) hc2 hs2 hq2, Option.bind_some]
    by_cases h2 : 0 < c2 ∧ MayP c2 s2 q2
    · have b := there_bound h; have b2 := there_bound h2
      have hb : 0 ≤ s * s * c2 ∧ s * s * c2 ≤ 1208925819614629174706176 * 1048576 := ⟨Int.mul_nonneg b.2.1 (by omega), Int.mul_le_mul b.2.2 b2.1 (by omega) (by omega)⟩
      have hb2 : 0 ≤ s2 * s2 * c ∧ s2 * s2 * c ≤ 1208925819614629174706176 * 1048576 := ⟨Int.mul_nonneg b2.2.1 (by omega), Int.mul_le_mul b2.2.2 b.1 (by omega) (by omega)⟩
      have hcc : 0 ≤ c * c2 ∧ c * c2 ≤ 1048576 * 1048576 := ⟨Int.mul_nonneg (by omega) (by omega), Int.mul_le_mul b.1 b2.1 (by omega) (by omega)⟩
      rw [decide_eq_true h2, Bool.not_true, spread_Score.j0, if_neg (by decide), if_pos (show (0 < c ∧ MayP c s q) ∧ (0 < c2 ∧ MayP c2 s2 q2) from ⟨h, h2⟩), sside_f hs h h2, Option.bind_some, sside_f hs2 h2 h, Option.bind_some]
      unfold wideD
      rw [add_f (a := s * s * c2 / 18446744073709551616) (b := s * s * c2 % 18446744073709551616) (c := s2 * s2 * c / 18446744073709551616) (d := s2 * s2 * c % 18446744073709551616) (by omega) (by omega) (by omega) (by omega) (by omega) (by omega) (by omega) (by omega), Option.bind_some]
      have e : s * s * c2 / 18446744073709551616 * 18446744073709551616 + s * s * c2 % 18446744073709551616 + (s2 * s2 * c / 18446744073709551616 * 18446744073709551616 + s2 * s2 * c % 18446744073709551616) = s * s * c2 + s2 * s2 * c := by omega
      rw [e]
      unfold wideSum
      rw [if_pos (by omega), uwrap_id (n := c) (by omega) (by omega), uwrap_id (n := c2) (by omega) (by omega), uwrap_id (n := c * c2) (by omega) (by omega)]
    · rw [decide_eq_false h2, Bool.not_false, jt, if_neg (show ¬ ((0 < c ∧ MayP c s q) ∧ (0 < c2 ∧ MayP c2 s2 q2)) from fun h3 => h2 h3.2)]
  · rw [decide_eq_false h, if_neg (by decide), jt, if_neg (show ¬ ((0 < c ∧ MayP c s q) ∧ (0 < c2 ∧ MayP c2 s2 q2)) from fun h3 => h h3.1)]
theorem digits_f {n : Int} (h0 : 0 ≤ n) (h1 : n < 18446744073709551616) : hornbeamref04_Digits.f n = some (dig4 n) := by
  unfold hornbeamref04_Digits.f dig4
  rw [Int.tmod_eq_emod_of_nonneg h0, Int.tdiv_eq_ediv_of_nonneg h0, Int.tdiv_eq_ediv_of_nonneg h0, Int.tdiv_eq_ediv_of_nonneg h0, uwrap_id (by omega) (by omega), uwrap_id (by omega) (by omega), uwrap_id (by omega) (by omega),
    Int.tmod_eq_emod_of_nonneg (by omega), Int.tmod_eq_emod_of_nonneg (by omega)]
theorem ofwide_f {h l : Int} (h0 : 0 ≤ h) (h1 : h < 18446744073709551616) (l0 : 0 ≤ l) (l1 : l < 18446744073709551616) : ∃ r, hornbeamref04_OfWide.f h l = some r ∧ r.length = 8 ∧ Dg r ∧ V r = h * 18446744073709551616 + l := by
  refine ⟨dig4 l ++ dig4 h, ?_, rfl, (dig4_Dg l0 l1).append (dig4_Dg h0 h1), ?_⟩
  · unfold hornbeamref04_OfWide.f
    rw [digits_f l0 l1, Option.bind_some, digits_f h0 h1, Option.bind_some, if_pos (by rw [dig4_len, dig4_len]; omega)]
  · rw [V_append, dig4_V, dig4_V, dig4_len, show (65536 : Int) ^ 4 = 18446744073709551616 from rfl]; omega
theorem rd_nat (l : List Int) (i : Nat) : rd l (i : Int) = l.getD i 0 := rfl
theorem product_l1 (a b : List Int) (ha : Dg a) (hb : Dg b) (la : a.length ≤ 100) (lb : b.length ≤ 100) (i : Nat) (hi : i < a.length) (d : Nat) :
    ∀ (j : Nat) (o : List Int) (c : Int), j + d = b.length → o.length = a.length + b.length → Dg o → 0 ≤ c → c < 65536 → (∀ m, i + b.length ≤ m → o.getD m 0 = 0) →
    ∃ r, (∀ k, hornbeamref04_Product.l1 (k + (d + 1)) a b o (i : Int) c (j : Int) = hornbeamref04_Product.l0 k a b r ((i + 1 : Nat) : Int)) ∧ r.length = a.length + b.length ∧ Dg r ∧
      V r = V o + (a.getD i 0 * V (b.drop j)) * 65536 ^ (i + j) + c * 65536 ^ (i + j) ∧ (∀ m, i + 1 + b.length ≤ m → r.getD m 0 = 0) := by
  induction d with
  | zero =>
    intro j o c hj ho hd c0 c1 hz
    have hjb : j = b.length := by omega
    subst hjb
    refine ⟨o.set (i + b.length) c, ?_, by rw [List.length_set]; exact ho, hd.set _ c0 c1, ?_, ?_⟩
    · intro k
      rw [hornbeamref04_Product.l1, if_neg (by omega), show wrap64 ((i : Int) + (b.length : Int)) = ((i + b.length : Nat) : Int) by unfold wrap64; omega, if_pos (by omega), if_pos (by omega),
        show wrap64 ((i : Int) + 1) = ((i + 1 : Nat) : Int) by unfold wrap64; omega]
      rfl
    · rw [V_set _ _ (by omega), hz _ (Nat.le_refl _), List.drop_length, V, Int.mul_zero, Int.zero_mul, Int.add_zero, Int.sub_zero]
    · intro m hm
      rw [digs_set_ne _ (by omega)]
      exact hz m (by omega)
  | succ d ih =>
    intro j o c hj ho hd c0 c1 hz
    have hA := ha.getD i; have hB := hb.getD j; have hO := hd.getD (i + j)
    have hP := mul_bound16 hA.1 hA.2 hB.1 hB.2
    obtain ⟨n, hn⟩ : ∃ n, n = o.getD (i + j) 0 + a.getD i 0 * b.getD j 0 + c := ⟨_, rfl⟩
    have n0 : 0 ≤ n := by omega
    have n1 : n < 4294967296 := by omega
    obtain ⟨r, hr, r1, r2, r3, r4⟩ := ih (j + 1) (o.set (i + j) (n % 65536)) (n / 65536) (by omega) (by rw [List.length_set]; exact ho) (hd.set _ (by omega) (by omega)) (by omega) (by omega) (by
      intro m hm
      rw [digs_set_ne _ (by omega)]
      exact hz m hm)
    refine ⟨r, ?_, r1, r2, ?_, r4⟩
    · intro k
      rw [show k + (d + 1 + 1) = k + (d + 1) + 1 by omega, hornbeamref04_Product.l1, if_pos (by omega), show wrap64 ((i : Int) + (j : Int)) = ((i + j : Nat) : Int) by unfold wrap64; omega, if_pos (by omega), if_pos (by omega), if_pos (by omega), if_pos (by omega), if_pos (by omega)]
      rw [rd_nat, rd_nat, rd_nat, uwrap_id (n := a.getD i 0 * b.getD j 0) (by omega) (by omega), uwrap_id (n := o.getD (i + j) 0 + a.getD i 0 * b.getD j 0) (by omega) (by omega), ← hn, uwrap_id (n := n) (by omega) (by omega),
        Int.tmod_eq_emod_of_nonneg n0, Int.tdiv_eq_ediv_of_nonneg n0, uwrap_id (by omega) (by omega), show wrap64 ((j : Int) + 1) = ((j + 1 : Nat) : Int) by unfold wrap64; omega]
      exact hr k
    · rw [r3, V_set _ _ (by omega), V_drop j (by omega), show i + (j + 1) = i + j + 1 by omega, Int.pow_succ]
      generalize (65536 : Int) ^ (i + j) = P at *
      generalize V (b.drop (j + 1)) = W at *
      have e1 : a.getD i 0 * (b.getD j 0 + 65536 * W) * P = a.getD i 0 * b.getD j 0 * P + a.getD i 0 * W * (P * 65536) := by
        rw [Int.mul_add, Int.add_mul, Int.mul_left_comm (a.getD i 0) 65536 W, Int.mul_comm 65536 (a.getD i 0 * W), Int.mul_assoc (a.getD i 0 * W), Int.mul_comm 65536 P]
      rw [e1]
      have e2 : a.getD i 0 * b.getD j 0 * P + c * P = (n - o.getD (i + j) 0) * P := by rw [← Int.add_mul]; congr 1; omega
      have e3 : (n % 65536 - o.getD (i + j) 0) * P + n / 65536 * (P * 65536) = (n - o.getD (i + j) 0) * P := by
        rw [Int.mul_comm P 65536, ← Int.mul_assoc, ← Int.add_mul]; congr 1; omega
      omega
theorem product_l0 (a b : List Int) (ha : Dg a) (hb : Dg b) (la : a.length ≤ 100) (lb : b.length ≤ 100) (d : Nat) :
    ∀ (i : Nat) (o : List Int), i + d = a.length → o.length = a.length + b.length → Dg o → (∀ m, i + b.length ≤ m → o.getD m 0 = 0) →
    ∃ r, (∀ k, hornbeamref04_Product.l0 (k + (d * (b.length + 2) + 1)) a b o (i : Int) = some r) ∧ r.length = a.length + b.length ∧ Dg r ∧ V r = V o + V (a.drop i) * V b * 65536 ^ i := by
  induction d with
  | zero =>
    intro i o hi ho hd hz
    refine ⟨o, ?_, ho, hd, ?_⟩
    · intro k
      rw [Nat.zero_mul, Nat.zero_add, hornbeamref04_Product.l0, if_neg (by omega)]
    · rw [List.drop_eq_nil_of_le (by omega), V, Int.zero_mul, Int.zero_mul, Int.add_zero]
  | succ d ih =>
    intro i o hi ho hd hz
    obtain ⟨o1, h1, h2, h3, h4, h5⟩ := product_l1 a b ha hb la lb i (by omega) b.length 0 o 0 (by omega) ho hd (by omega) (by omega) hz
    obtain ⟨r, g1, g2, g3, g4⟩ := ih (i + 1) o1 (by omega) h2 h3 h5
    refine ⟨r, ?_, g2, g3, ?_⟩
    · intro k
      rw [show k + ((d + 1) * (b.length + 2) + 1) = k + (d * (b.length + 2) + 1) + (b.length + 1) + 1 by rw [Nat.add_mul]; omega, hornbeamref04_Product.l0, if_pos (by omega)]
      exact (h1 _).trans (g1 k)
    · rw [g4, h4, V_drop i (by omega), List.drop_zero, Nat.add_zero, Int.zero_mul, Int.add_zero, Int.pow_succ]
      generalize (65536 : Int) ^ i = P at *
      generalize V (a.drop (i + 1)) = W at *
      generalize V b = Y at *
      rw [Int.add_mul, Int.add_mul, Int.mul_comm P 65536, ← Int.mul_assoc (W * Y), Int.mul_comm (W * Y) 65536, ← Int.mul_assoc 65536 W Y]
      omega
theorem product_f (a b : List Int) (ha : Dg a) (hb : Dg b) (la : a.length ≤ 100) (lb : b.length ≤ 100) :
    ∃ r, (∀ k, 10300 ≤ k → hornbeamref04_Product.f k a b = some r) ∧ r.length = a.length + b.length ∧ Dg r ∧ V r = V a * V b := by
  have e : wrap64 ((a.length : Int) + (b.length : Int)) = ((a.length + b.length : Nat) : Int) := by unfold wrap64; omega
  obtain ⟨r, h1, h2, h3, h4⟩ := product_l0 a b ha hb la lb a.length 0 (List.replicate (a.length + b.length) 0) (by omega) (List.length_replicate) (Dg.replicate _) (by
    intro m _
    by_cases h : m < a.length + b.length <;> simp [List.getD, h])
  refine ⟨r, ?_, h2, h3, ?_⟩
  · intro k hk
    have hm : a.length * (b.length + 2) ≤ 100 * 102 := Nat.mul_le_mul la (by omega)
    unfold hornbeamref04_Product.f
    rw [e, if_pos (by omega), Int.toNat_natCast, if_pos (by omega)]
    have := h1 (k - (a.length * (b.length + 2) + 1))
    rw [show k - (a.length * (b.length + 2) + 1) + (a.length * (b.length + 2) + 1) = k by omega] at this
    exact this
  · rw [h4, V_replicate, List.drop_zero, Int.pow_zero, Int.mul_one, Int.zero_add]
theorem rcompare_l (a b : List Int) (ha : Dg a) (hb : Dg b) (hl : a.length = b.length) (h100 : a.length ≤ 100) (m : Nat) : ∀ (k : Nat), m ≤ a.length → m < k →
    hornbeamref04_Compare.l0 k a b ((m : Int) - 1) = some (cmpI (V (a.take m)) (V (b.take m))) := by
  induction m with
  | zero =>
    intro k _ hk
    obtain ⟨k, rfl⟩ : ∃ q, k = q + 1 := ⟨k - 1, by omega⟩
    rw [hornbeamref04_Compare.l0, if_neg (by omega)]
    rfl
  | succ m ih =>
    intro k hm hk
    obtain ⟨k, rfl⟩ : ∃ q, k = q + 1 := ⟨k - 1, by omega⟩
    have tk : ∀ (l : List Int), m < l.length → V (l.take (m + 1)) = V (l.take m) + 65536 ^ m * l.getD m 0 := by
      intro l h
      rw [List.take_succ_eq_append_getElem h, V_append, List.length_take, Nat.min_eq_left (by omega)]
      simp [V, List.getD, h]
    have u1 := V_lt (ha.take m); have u2 := V_nonneg (ha.take m)
    have v1 := V_lt (hb.take m); have v2 := V_nonneg (hb.take m)
    rw [List.length_take, Nat.min_eq_left (by omega)] at u1 v1
    rw [hornbeamref04_Compare.l0, show (((m + 1 : Nat) : Int) - 1) = (m : Int) by omega, if_pos (by omega), if_pos (by omega), if_pos (by omega), if_pos (by omega), rd_nat, rd_nat, show wrap64 ((m : Int) - 1) = (m : Int) - 1 by unfold wrap64; omega,
      ih k (by omega) (by omega), tk a (by omega), tk b (by omega)]
    generalize (65536 : Int) ^ m = P at *
    generalize V (a.take m) = x at *
    generalize V (b.take m) = y at *
    generalize a.getD m 0 = p at *
    generalize b.getD m 0 = q at *
    have key : ∀ s t : Int, s < t → P * s + P ≤ P * t := by
      intro s t h
      have := Int.mul_le_mul_of_nonneg_left (a := s + 1) (b := t) (c := P) (by omega) (by omega)
      rw [Int.mul_add, Int.mul_one] at this
      exact this
    unfold cmpI
    by_cases h1 : p < q
    · have := key p q h1
      rw [if_pos h1, if_pos (by omega)]
    · rw [if_neg h1]
      by_cases h2 : p > q
      · have := key q p h2
        rw [if_pos h2, if_neg (by omega), if_pos (by omega)]
      · have e : p = q := by omega
        subst e
        rw [if_neg h2]
        congr 1
        by_cases h3 : x < y
        · rw [if_pos h3, if_pos (by omega)]
        · rw [if_neg h3, if_neg (show ¬ (x + P * p < y + P * p) by omega)]
          by_cases h4 : y < x
          · rw [if_pos h4, if_pos (by omega)]
          · rw [if_neg h4, if_neg (by omega)]
theorem rcompare_f (a b : List Int) (ha : Dg a) (hb : Dg b) (hl : a.length = b.length) (h100 : a.length ≤ 100) (k : Nat) (hk : 101 ≤ k) :
    hornbeamref04_Compare.f k a b = some (cmpI (V a) (V b)) := by
  have := rcompare_l a b ha hb hl h100 a.length k (Nat.le_refl _) (by omega)
  rw [List.take_length, hl, List.take_length] at this
  unfold hornbeamref04_Compare.f
  rw [show wrap64 ((a.length : Int) - 1) = (a.length : Int) - 1 by unfold wrap64; omega, hl]
  exact this
/-- How two fractions stand to one another, their upper numbers whole. -/
def fracCmp (x : Int) (d : Int) (y : Int) (e : Int) : Int := cmpI (x * e) (y * d)
theorem refcmp_f {h l d h2 l2 d2 : Int} (h0 : 0 ≤ h) (h1 : h < 18446744073709551616) (l0 : 0 ≤ l) (l1 : l < 18446744073709551616) (d0 : 0 < d) (d1 : d < 18446744073709551616)
    (g0 : 0 ≤ h2) (g1 : h2 < 18446744073709551616) (m0 : 0 ≤ l2) (m1 : l2 < 18446744073709551616) (e0 : 0 < d2) (e1 : d2 < 18446744073709551616) (k : Nat) (hk : 10310 ≤ k) :
    hornbeamref05_Cmp.f k h l d h2 l2 d2 = some (fracCmp (h * 18446744073709551616 + l) d (h2 * 18446744073709551616 + l2) d2) := by
  obtain ⟨k, rfl⟩ : ∃ q, k = q + 3 := ⟨k - 3, by omega⟩
  obtain ⟨a, a1, a2, a3, a4⟩ := ofwide_f h0 h1 l0 l1
  obtain ⟨b, b1, b2, b3, b4⟩ := ofwide_f g0 g1 m0 m1
  obtain ⟨r, r1, r2, r3, r4⟩ := product_f a (dig4 d2) a3 (dig4_Dg (by omega) e1) (by omega) (by rw [dig4_len]; omega)
  obtain ⟨s, s1, s2, s3, s4⟩ := product_f b (dig4 d) b3 (dig4_Dg (by omega) d1) (by omega) (by rw [dig4_len]; omega)
  rw [dig4_V] at r4 s4
  rw [dig4_len] at r2 s2
  unfold hornbeamref05_Cmp.f
  rw [if_neg (by omega), hornbeamref05_Cmp.j0, if_neg (by decide), if_neg (by omega), if_neg (by omega), a1, Option.bind_some, digits_f (by omega) e1, Option.bind_some, r1 _ (by omega), Option.bind_some,
    b1, Option.bind_some, digits_f (by omega) d1, Option.bind_some, s1 _ (by omega), Option.bind_some, rcompare_f r s r3 s3 (by omega) (by omega) _ (by omega), Option.bind_some, r4, s4, a4, b4]
  rfl
theorem limited_l (x0 l : List Int) (hl : l.length ≤ 9223372036854775807) (d : Nat) : ∀ (k i : Nat), i + d = l.length → d < k →
    hornbeamlaw15_limited.l0 k x0 l (l.length : Int) (i : Int) = some (decide (lim (l.drop i) ∧ (x0.length : Int) ≤ 200)) := by
  induction d with
  | zero =>
    intro k i hi hk
    obtain ⟨k, rfl⟩ : ∃ m, k = m + 1 := ⟨k - 1, by omega⟩
    rw [hornbeamlaw15_limited.l0, if_neg (by omega), List.drop_eq_nil_of_le (by omega)]
    congr 1
    rw [decide_eq_decide]
    exact ⟨fun h => ⟨(fun x hx => by cases hx), h⟩, fun h => h.2⟩
  | succ d ih =>
    intro k i hi hk
    obtain ⟨k, rfl⟩ : ∃ m, k = m + 1 := ⟨k - 1, by omega⟩
    have hlt : i < l.length := by omega
    have e : l.getD i 0 = l[i] := by simp [List.getD, hlt]
    rw [hornbeamlaw15_limited.l0, if_pos (by omega), if_pos (by omega), if_pos (by omega), rd_nat, e, List.drop_eq_getElem_cons hlt, show wrap64 ((i : Int) + 1) = ((i + 1 : Nat) : Int) by unfold wrap64; omega]
    by_cases h1 : l[i] > 1048576
    · rw [if_pos h1, decide_eq_false (fun h => by have := h.1.head; omega)]
    · rw [if_neg h1]
      by_cases h2 : l[i] < -1048576
      · rw [if_pos h2, decide_eq_false (fun h => by have := h.1.head; omega)]
      · rw [if_neg h2, ih k (i + 1) (by omega) (by omega)]
        congr 1
        rw [decide_eq_decide]
        refine ⟨fun h => ⟨?_, h.2⟩, fun h => ⟨h.1.tail, h.2⟩⟩
        intro x hx
        rcases List.mem_cons.1 hx with rfl | hx
        · omega
        · exact h.1 x hx
theorem limited_f (l : List Int) (hl : l.length ≤ 9223372036854775807) (k : Nat) (hk : l.length < k) : hornbeamlaw15_limited.f k l = some (decide (lim l ∧ (l.length : Int) ≤ 200)) :=
  limited_l l l hl l.length k 0 (by omega) hk
theorem of_l (l : List Int) (hl : lim l) (h200 : l.length ≤ 1000) (d : Nat) : ∀ (k i : Nat) (c s q : Int), i + d = l.length → d < k → 0 ≤ c → c ≤ i → -(1048576 * (i : Int)) ≤ s → s ≤ 1048576 * (i : Int) → 0 ≤ q → q ≤ 1099511627776 * (i : Int) →
    hornbeamref15_Of.l0 k l (i : Int) c s q = some (c + d, s + S1 (l.drop i), q + S2 (l.drop i)) := by
  induction d with
  | zero =>
    intro k i c s q hi hk c0 c1 s0 s1 q0 q1
    obtain ⟨k, rfl⟩ : ∃ m, k = m + 1 := ⟨k - 1, by omega⟩
    rw [hornbeamref15_Of.l0, if_neg (by omega), List.drop_eq_nil_of_le (by omega)]
    simp [S1, S2]
  | succ d ih =>
    intro k i c s q hi hk c0 c1 s0 s1 q0 q1
    obtain ⟨k, rfl⟩ : ∃ m, k = m + 1 := ⟨k - 1, by omega⟩
    have hlt : i < l.length := by omega
    have e : l.getD i 0 = l[i] := by simp [List.getD, hlt]
    have hx := hl l[i] (List.getElem_mem hlt)
    have hxx := sq_bound hx.1 hx.2
    rw [hornbeamref15_Of.l0, if_pos (by omega), if_pos (by omega), rd_nat, e, List.drop_eq_getElem_cons hlt, show wrap64 ((i : Int) + 1) = ((i + 1 : Nat) : Int) by unfold wrap64; omega,
      wrap64_id (n := c + 1) (by omega) (by omega), wrap64_id (n := s + l[i]) (by omega) (by omega), wrap64_id (n := l[i] * l[i]) (by omega) (by omega), wrap64_id (n := q + l[i] * l[i]) (by omega) (by omega),
      ih k (i + 1) _ _ _ (by omega) (by omega) (by omega) (by omega) (by omega) (by omega) (by omega) (by omega), S1, S2]
    simp only [Option.some.injEq, Prod.mk.injEq]
    omega
theorem of_f (l : List Int) (hl : lim l) (h200 : l.length ≤ 1000) (k : Nat) (hk : l.length < k) : hornbeamref15_Of.f k l = some ((l.length : Int), S1 l, S2 l) := by
  have := of_l l hl h200 l.length k 0 0 0 0 (by omega) hk (by omega) (by omega) (by omega) (by omega) (by omega) (by omega)
  unfold hornbeamref15_Of.f
  rw [List.drop_zero, Int.zero_add, Int.zero_add, Int.zero_add] at this
  exact this
/-- What targets within the limits come to may be. -/
theorem of_may (l : List Int) (hl : lim l) (h : l.length ≤ 1000) : MayP (l.length : Int) (S1 l) (S2 l) := by
  cases l with
  | nil => exact .inl ⟨rfl, rfl, rfl⟩
  | cons x m =>
    have h1 := S1_bound hl; have h2 := S2_bound hl; have h3 := D_nonneg (x :: m)
    unfold D at h3
    refine .inr ⟨by rw [List.length_cons]; omega, by omega, h2.1, by omega, by omega, by omega, by omega⟩
theorem mmmc (a b c d : Int) : a * b * (c * d) = a * c * (b * d) := by rw [Int.mul_assoc, Int.mul_assoc, Int.mul_left_comm b c d]
theorem S1_append (a b : List Int) : S1 (a ++ b) = S1 a + S1 b := by
  induction a with
  | nil => simp [S1]
  | cons x a ih => rw [List.cons_append, S1, ih, S1]; omega
theorem S2_append (a b : List Int) : S2 (a ++ b) = S2 a + S2 b := by
  induction a with
  | nil => simp [S2]
  | cons x a ih => rw [List.cons_append, S2, ih, S2]; omega
theorem lim_append {a b : List Int} (ha : lim a) (hb : lim b) : lim (a ++ b) := by
  intro x hx
  rcases List.mem_append.1 hx with h | h
  · exact ha x h
  · exact hb x h
theorem parts_eq (n m s t : Int) : (s * s * m + t * t * n) * (n + m) = (s + t) * (s + t) * (n * m) + (s * m - t * n) * (s * m - t * n) := by
  have e1 : (s * s * m + t * t * n) * (n + m) = s * s * m * n + s * s * m * m + (t * t * n * n + t * t * n * m) := by rw [Int.add_mul, Int.mul_add, Int.mul_add]
  have e2 : (s + t) * (s + t) * (n * m) = s * s * (n * m) + 2 * (s * t * (n * m)) + t * t * (n * m) := by
    have : (s + t) * (s + t) = s * s + 2 * (s * t) + t * t := by rw [Int.add_mul, Int.mul_add, Int.mul_add, Int.mul_comm t s]; omega
    rw [this, Int.add_mul, Int.add_mul, Int.mul_assoc 2]
  have e3 : (s * m - t * n) * (s * m - t * n) = s * m * (s * m) - 2 * (s * m * (t * n)) + t * n * (t * n) := by
    rw [Int.sub_mul, Int.mul_sub, Int.mul_sub, Int.mul_comm (t * n) (s * m)]; omega
  have f1 : s * s * m * n = s * s * (n * m) := by rw [Int.mul_assoc, Int.mul_comm m n]
  have f2 : s * s * m * m = s * m * (s * m) := by rw [Int.mul_assoc (s * s), mmmc]
  have f3 : t * t * n * n = t * n * (t * n) := by rw [Int.mul_assoc (t * t), mmmc]
  have f4 : t * t * n * m = t * t * (n * m) := Int.mul_assoc _ _ _
  have f5 : s * m * (t * n) = s * t * (n * m) := by rw [mmmc, Int.mul_comm m n]
  rw [e1, e2, e3, f1, f2, f3, f4, f5]; omega
/-- Which of the two cuts is the better one. -/
def ordS (na sa nb sb nc sc : Int) : Int :=
  if na = 0 then (if nc = 0 then 0 else -1) else if nc = 0 then 1 else cmpI ((sa * sa * (nb + nc) + (sb + sc) * (sb + sc) * na) * ((na + nb) * nc)) (((sa + sb) * (sa + sb) * nc + sc * sc * (na + nb)) * (na * (nb + nc)))
def ordL (a b c : List Int) : Int := if (b.length : Int) = 0 then 9 else ordS a.length (S1 a) b.length (S1 b) c.length (S1 c)
theorem cmpI_shift (x y z : Int) : cmpI (x + z) (y + z) = cmpI x y := by
  unfold cmpI
  by_cases h : x < y
  · rw [if_pos h, if_pos (by omega)]
  · rw [if_neg h, if_neg (by omega)]
    by_cases h2 : y < x
    · rw [if_pos h2, if_pos (by omega)]
    · rw [if_neg h2, if_neg (by omega)]
theorem ordS_shift (na sa nb sb nc sc t : Int) : ordS na (sa + t * na) nb (sb + t * nb) nc (sc + t * nc) = ordS na sa nb sb nc sc := by
  have e1 : ((sa + t * na) * (sa + t * na) * (nb + nc) + (sb + t * nb + (sc + t * nc)) * (sb + t * nb + (sc + t * nc)) * na) * ((na + nb) * nc) = (sa * sa * (nb + nc) + (sb + sc) * (sb + sc) * na) * ((na + nb) * nc) + (2 * t * (sa + sb + sc) + t * t * (na + nb + nc)) * (na * (nb + nc)) * ((na + nb) * nc) := by grind
  have e2 : ((sa + t * na + (sb + t * nb)) * (sa + t * na + (sb + t * nb)) * nc + (sc + t * nc) * (sc + t * nc) * (na + nb)) * (na * (nb + nc)) = ((sa + sb) * (sa + sb) * nc + sc * sc * (na + nb)) * (na * (nb + nc)) + (2 * t * (sa + sb + sc) + t * t * (na + nb + nc)) * (na * (nb + nc)) * ((na + nb) * nc) := by grind
  unfold ordS
  rw [e1, e2, cmpI_shift]
def moved (t : Int) (l : List Int) : List Int := l.map fun x => x + t
theorem S1_moved (t : Int) (l : List Int) : S1 (moved t l) = S1 l + t * (l.length : Int) := by
  induction l with
  | nil => simp [moved, S1]
  | cons x l ih =>
    have e : S1 (moved t (x :: l)) = x + t + S1 (moved t l) := rfl
    rw [e, ih, S1, List.length_cons]
    grind
theorem ordL_moved (t : Int) (a b c : List Int) : ordL (moved t a) (moved t b) (moved t c) = ordL a b c := by
  unfold ordL
  simp only [S1_moved]
  simp only [moved, List.length_map]
  rw [ordS_shift]
theorem cmp_none (k : Nat) (a b c _d : Int) : hornbeamref05_Cmp.f (k + 3) 0 0 0 a b c = some (if c = 0 then 0 else -1) := by
  unfold hornbeamref05_Cmp.f
  rw [if_pos rfl]
  by_cases h : c = 0
  · rw [if_pos h, show (c == 0) = true from beq_iff_eq.2 h]; simp [hornbeamref05_Cmp.j0]
  · rw [if_neg h, show (c == 0) = false from beq_eq_false_iff_ne.2 h]; simp [hornbeamref05_Cmp.j0]
theorem cmp_none2 (k : Nat) (a b c : Int) (h : c ≠ 0) : hornbeamref05_Cmp.f (k + 3) a b c 0 0 0 = some 1 := by
  unfold hornbeamref05_Cmp.f
  rw [if_neg h]
  simp [hornbeamref05_Cmp.j0, h]
theorem inI_of {l : List Int} (h : lim l) (h2 : l.length ≤ 400) : InI (l.length : Int) ∧ InI (S1 l) ∧ InI (S2 l) := by
  have := S1_bound h; have := S2_bound h
  unfold InI; omega
/-- What the closure comes to, where there is some target in the midst. -/
theorem order_f (k : Nat) (hk : 10330 ≤ k) {a b c : List Int} (ha : lim a) (hb : lim b) (hc : lim c) (a2 : a.length ≤ 200) (b2 : b.length ≤ 200) (c2 : c.length ≤ 200) (h0 : (b.length : Int) ≠ 0) :
    ∃ x1 x2 x3 y1 y2 y3 : Int, spread_Score.f k (a.length : Int) (S1 a) (S2 a) ((b ++ c).length : Int) (S1 (b ++ c)) (S2 (b ++ c)) = some (x1, x2, x3) ∧ spread_Score.f k ((a ++ b).length : Int) (S1 (a ++ b)) (S2 (a ++ b)) (c.length : Int) (S1 c) (S2 c) = some (y1, y2, y3) ∧
      hornbeamref05_Cmp.f k x1 x2 x3 y1 y2 y3 = some (ordL a b c) := by
  have lab := lim_append ha hb; have lbc := lim_append hb hc
  have nab : (a ++ b).length ≤ 400 := by rw [List.length_append]; omega
  have nbc : (b ++ c).length ≤ 400 := by rw [List.length_append]; omega
  obtain ⟨i1, i2, i3⟩ := inI_of ha (by omega)
  obtain ⟨j1, j2, j3⟩ := inI_of lbc nbc
  obtain ⟨k1, k2, k3⟩ := inI_of lab nab
  obtain ⟨l1, l2, l3⟩ := inI_of hc (by omega)
  have ma := of_may a ha (by omega); have mc := of_may c hc (by omega); have mab := of_may (a ++ b) lab (by omega); have mbc := of_may (b ++ c) lbc (by omega)
  have eab : ((a ++ b).length : Int) = a.length + b.length := by rw [List.length_append, Int.natCast_add]
  have ebc : ((b ++ c).length : Int) = b.length + c.length := by rw [List.length_append, Int.natCast_add]
  have tab : 0 < ((a ++ b).length : Int) ∧ MayP ((a ++ b).length : Int) (S1 (a ++ b)) (S2 (a ++ b)) := ⟨by omega, mab⟩
  have tbc : 0 < ((b ++ c).length : Int) ∧ MayP ((b ++ c).length : Int) (S1 (b ++ c)) (S2 (b ++ c)) := ⟨by omega, mbc⟩
  have s1 := score_f k (by omega) i1 i2 i3 j1 j2 j3
  have s2 := score_f k (by omega) k1 k2 k3 l1 l2 l3
  obtain ⟨⟨x1, x2, x3⟩, hP⟩ : ∃ p, (if (0 < (a.length : Int) ∧ MayP (a.length : Int) (S1 a) (S2 a)) ∧ (0 < ((b ++ c).length : Int) ∧ MayP ((b ++ c).length : Int) (S1 (b ++ c)) (S2 (b ++ c))) then ((wideD (S1 a * S1 a * ((b ++ c).length : Int) + S1 (b ++ c) * S1 (b ++ c) * (a.length : Int))).1, (wideD (S1 a * S1 a * ((b ++ c).length : Int) + S1 (b ++ c) * S1 (b ++ c) * (a.length : Int))).2, (a.length : Int) * ((b ++ c).length : Int)) else (0, 0, 0)) = p := ⟨_, rfl⟩
  obtain ⟨⟨y1, y2, y3⟩, hQ⟩ : ∃ p, (if (0 < ((a ++ b).length : Int) ∧ MayP ((a ++ b).length : Int) (S1 (a ++ b)) (S2 (a ++ b))) ∧ (0 < (c.length : Int) ∧ MayP (c.length : Int) (S1 c) (S2 c)) then ((wideD (S1 (a ++ b) * S1 (a ++ b) * (c.length : Int) + S1 c * S1 c * ((a ++ b).length : Int))).1, (wideD (S1 (a ++ b) * S1 (a ++ b) * (c.length : Int) + S1 c * S1 c * ((a ++ b).length : Int))).2, ((a ++ b).length : Int) * (c.length : Int)) else (0, 0, 0)) = p := ⟨_, rfl⟩
  rw [hP] at s1
  rw [hQ] at s2
  refine ⟨x1, x2, x3, y1, y2, y3, s1, s2, ?_⟩
  clear s1 s2
  obtain ⟨q, rfl⟩ : ∃ q, k = q + 3 := ⟨k - 3, by omega⟩
  unfold ordL ordS
  rw [if_neg h0]
  have bab := there_bound tab; have bbc := there_bound tbc
  by_cases hna : (a.length : Int) = 0
  · rw [if_neg (show ¬ ((0 < (a.length : Int) ∧ MayP (a.length : Int) (S1 a) (S2 a)) ∧ (0 < ((b ++ c).length : Int) ∧ MayP ((b ++ c).length : Int) (S1 (b ++ c)) (S2 (b ++ c)))) from fun h => by have := h.1.1; omega)] at hP
    simp only [Prod.mk.injEq] at hP
    obtain ⟨rfl, rfl, rfl⟩ := hP
    rw [if_pos hna]
    by_cases hnc : (c.length : Int) = 0
    · rw [if_neg (show ¬ ((0 < ((a ++ b).length : Int) ∧ MayP ((a ++ b).length : Int) (S1 (a ++ b)) (S2 (a ++ b))) ∧ (0 < (c.length : Int) ∧ MayP (c.length : Int) (S1 c) (S2 c))) from fun h => by have := h.2.1; omega)] at hQ
      simp only [Prod.mk.injEq] at hQ
      obtain ⟨rfl, rfl, rfl⟩ := hQ
      rw [if_pos hnc]
      exact (cmp_none q 0 0 0 0).trans (by rw [if_pos rfl])
    · have tc : 0 < (c.length : Int) ∧ MayP (c.length : Int) (S1 c) (S2 c) := ⟨by omega, mc⟩
      rw [if_pos ⟨tab, tc⟩] at hQ
      simp only [Prod.mk.injEq] at hQ
      obtain ⟨rfl, rfl, rfl⟩ := hQ
      rw [if_neg hnc]
      have hd : 0 < ((a ++ b).length : Int) * (c.length : Int) := Int.mul_pos tab.1 tc.1
      exact (cmp_none q _ _ _ 0).trans (by rw [if_neg (by omega)])
  · have ta : 0 < (a.length : Int) ∧ MayP (a.length : Int) (S1 a) (S2 a) := ⟨by omega, ma⟩
    have ba := there_bound ta
    have hd : 0 < (a.length : Int) * ((b ++ c).length : Int) ∧ (a.length : Int) * ((b ++ c).length : Int) ≤ 1048576 * 1048576 := ⟨Int.mul_pos ta.1 tbc.1, Int.mul_le_mul ba.1 bbc.1 (by omega) (by omega)⟩
    rw [if_pos ⟨ta, tbc⟩] at hP
    simp only [Prod.mk.injEq] at hP
    obtain ⟨rfl, rfl, rfl⟩ := hP
    rw [if_neg hna]
    by_cases hnc : (c.length : Int) = 0
    · rw [if_neg (show ¬ ((0 < ((a ++ b).length : Int) ∧ MayP ((a ++ b).length : Int) (S1 (a ++ b)) (S2 (a ++ b))) ∧ (0 < (c.length : Int) ∧ MayP (c.length : Int) (S1 c) (S2 c))) from fun h => by have := h.2.1; omega)] at hQ
      simp only [Prod.mk.injEq] at hQ
      obtain ⟨rfl, rfl, rfl⟩ := hQ
      rw [if_pos hnc]
      exact cmp_none2 q _ _ _ (by omega)
    · have tc : 0 < (c.length : Int) ∧ MayP (c.length : Int) (S1 c) (S2 c) := ⟨by omega, mc⟩
      have bc := there_bound tc
      have he : 0 < ((a ++ b).length : Int) * (c.length : Int) ∧ ((a ++ b).length : Int) * (c.length : Int) ≤ 1048576 * 1048576 := ⟨Int.mul_pos tab.1 tc.1, Int.mul_le_mul bab.1 bc.1 (by omega) (by omega)⟩
      have hx : 0 ≤ S1 a * S1 a * ((b ++ c).length : Int) ∧ S1 a * S1 a * ((b ++ c).length : Int) ≤ 1208925819614629174706176 * 1048576 := ⟨Int.mul_nonneg ba.2.1 (by omega), Int.mul_le_mul ba.2.2 bbc.1 (by omega) (by omega)⟩
      have hx2 : 0 ≤ S1 (b ++ c) * S1 (b ++ c) * (a.length : Int) ∧ S1 (b ++ c) * S1 (b ++ c) * (a.length : Int) ≤ 1208925819614629174706176 * 1048576 := ⟨Int.mul_nonneg bbc.2.1 (by omega), Int.mul_le_mul bbc.2.2 ba.1 (by omega) (by omega)⟩
      have hy : 0 ≤ S1 (a ++ b) * S1 (a ++ b) * (c.length : Int) ∧ S1 (a ++ b) * S1 (a ++ b) * (c.length : Int) ≤ 1208925819614629174706176 * 1048576 := ⟨Int.mul_nonneg bab.2.1 (by omega), Int.mul_le_mul bab.2.2 bc.1 (by omega) (by omega)⟩
      have hy2 : 0 ≤ S1 c * S1 c * ((a ++ b).length : Int) ∧ S1 c * S1 c * ((a ++ b).length : Int) ≤ 1208925819614629174706176 * 1048576 := ⟨Int.mul_nonneg bc.2.1 (by omega), Int.mul_le_mul bc.2.2 bab.1 (by omega) (by omega)⟩
      rw [if_pos ⟨tab, tc⟩] at hQ
      simp only [Prod.mk.injEq] at hQ
      obtain ⟨rfl, rfl, rfl⟩ := hQ
      rw [if_neg hnc]
      unfold wideD
      generalize hX : S1 a * S1 a * ((b ++ c).length : Int) + S1 (b ++ c) * S1 (b ++ c) * (a.length : Int) = X at *
      generalize hY : S1 (a ++ b) * S1 (a ++ b) * (c.length : Int) + S1 c * S1 c * ((a ++ b).length : Int) = Y at *
      have eX : X / 18446744073709551616 * 18446744073709551616 + X % 18446744073709551616 = X := by omega
      have eY : Y / 18446744073709551616 * 18446744073709551616 + Y % 18446744073709551616 = Y := by omega
      rw [refcmp_f (h := X / 18446744073709551616) (l := X % 18446744073709551616) (d := (a.length : Int) * ((b ++ c).length : Int)) (h2 := Y / 18446744073709551616) (l2 := Y % 18446744073709551616) (d2 := ((a ++ b).length : Int) * (c.length : Int)) (by omega) (by omega) (by omega) (by omega) hd.1 (by omega) (by omega) (by omega) (by omega) (by omega) he.1 (by omega) (q + 3) (by omega), eX, eY]
      unfold fracCmp
      rw [← hX, ← hY, eab, ebc, S1_append, S1_append]
theorem order_1 (k : Nat) (hk : 10330 ≤ k) {a b c : List Int} (ha : lim a) (hb : lim b) (hc : lim c) (a2 : a.length ≤ 200) (b2 : b.length ≤ 200) (c2 : c.length ≤ 200) : hornbeamlaw15_SpreadShift_1.f k a b c = some (ordL a b c) := by
  have lab := lim_append ha hb; have lbc := lim_append hb hc
  have nab : (a ++ b).length ≤ 400 := by rw [List.length_append]; omega
  have nbc : (b ++ c).length ≤ 400 := by rw [List.length_append]; omega
  unfold hornbeamlaw15_SpreadShift_1.f
  rw [of_f a ha (by omega) k (by omega), Option.bind_some, of_f b hb (by omega) k (by omega), Option.bind_some, of_f c hc (by omega) k (by omega), Option.bind_some, Option.bind_some]
  rw [if_pos (show ([] : List Int).length + a.length < 17592186044416 by simp; omega), Option.bind_some, List.nil_append]
  rw [if_pos (show a.length + b.length < 17592186044416 by omega), of_f (a ++ b) lab (by omega) k (by omega), Option.bind_some, Option.bind_some]
  rw [if_pos (show ([] : List Int).length + b.length < 17592186044416 by simp; omega), Option.bind_some, List.nil_append]
  rw [if_pos (show b.length + c.length < 17592186044416 by omega), of_f (b ++ c) lbc (by omega) k (by omega), Option.bind_some]
  by_cases h0 : (b.length : Int) = 0
  · rw [if_pos h0]; unfold ordL; rw [if_pos h0]
  · rw [if_neg h0]
    obtain ⟨x1, x2, x3, y1, y2, y3, s1, s2, s3⟩ := order_f k hk ha hb hc a2 b2 c2 h0
    dsimp only
    rw [s1, Option.bind_some, s2, Option.bind_some, s3, Option.bind_some]
theorem mv_eq {l : List Int} (h : lim l) {t : Int} (h0 : -2147483648 ≤ t) (h1 : t ≤ 2147483647) : hornbeamlaw15_SpreadShift.mv t l = moved t l := by
  unfold hornbeamlaw15_SpreadShift.mv moved
  refine List.map_congr_left fun x hx => ?_
  have := h x hx
  unfold wrap64; omega
theorem lim3_f (k : Nat) {x y z : List Int} (hx : x.length < k) (hy : y.length < k) (hz : z.length < k) (lx : x.length ≤ 9223372036854775807) (ly : y.length ≤ 9223372036854775807) (lz : z.length ≤ 9223372036854775807) {fx rest : Option Bool} (hf : fx = some true)
    (hr : lim x → lim y → lim z → (x.length : Int) ≤ 200 → (y.length : Int) ≤ 200 → (z.length : Int) ≤ 200 → rest = some true) : hornbeamlaw15_SpreadShift.lim3 k x y z fx rest = some true := by
  unfold hornbeamlaw15_SpreadShift.lim3
  rw [limited_f x lx k hx, Option.bind_some]
  by_cases cx : lim x ∧ (x.length : Int) ≤ 200
  · rw [decide_eq_true cx, if_pos rfl, limited_f y ly k hy, Option.bind_some]
    by_cases cy : lim y ∧ (y.length : Int) ≤ 200
    · rw [decide_eq_true cy, if_pos rfl, limited_f z lz k hz, Option.bind_some]
      by_cases cz : lim z ∧ (z.length : Int) ≤ 200
      · rw [decide_eq_true cz, if_pos rfl]
        exact hr cx.1 cy.1 cz.1 cx.2 cy.2 cz.2
      · rw [decide_eq_false cz, if_neg (by decide)]; exact hf
    · rw [decide_eq_false cy, if_neg (by decide)]; exact hf
  · rw [decide_eq_false cx, if_neg (by decide)]; exact hf
end SpreadShift0
open SpreadShift0
theorem SpreadShift : hornbeamlaw15_SpreadShift.Pure := by
  intro x y z t wx wy wz wt
  obtain ⟨t0, t1⟩ : -2147483648 ≤ t ∧ t ≤ 2147483647 := by
    simp only [Lit.wf, IntKind.min, IntKind.max, IntKind.signed, IntKind.bits, Bool.and_eq_true, decide_eq_true_eq, if_true] at wt
    omega
  have lx : x.length ≤ 9223372036854775807 := wx.1
  have ly : y.length ≤ 9223372036854775807 := wy.1
  have lz : z.length ≤ 9223372036854775807 := wz.1
  obtain ⟨k, hk⟩ : ∃ k, k = 20000 + x.length + y.length + z.length := ⟨_, rfl⟩
  refine ⟨k, ?_⟩
  have hf := fixed_f k (by omega)
  unfold hornbeamlaw15_SpreadShift.f
  refine lim3_f k (by omega) (by omega) (by omega) lx ly lz hf fun ax ay az bx by_ bz => ?_
  rw [if_pos ⟨by omega, by omega, by omega⟩, mv_eq ax t0 t1, mv_eq ay t0 t1, mv_eq az t0 t1]
  have mx : (moved t x).length = x.length := List.length_map ..
  have my : (moved t y).length = y.length := List.length_map ..
  have mz : (moved t z).length = z.length := List.length_map ..
  refine lim3_f k (by omega) (by omega) (by omega) (by omega) (by omega) (by omega) hf fun ax2 ay2 az2 bx2 by2 bz2 => ?_
  unfold hornbeamlaw15_SpreadShift.last
  rw [hf, Option.bind_some, if_pos rfl, order_1 k (by omega) ax ay az (by omega) (by omega) (by omega), Option.bind_some, order_1 k (by omega) ax2 ay2 az2 (by omega) (by omega) (by omega), Option.bind_some, ordL_moved]
  simp
end Go.Proofs.Ytoonddgldmfleaa.Pure
