/- For all moments a, b the law SpreadScores answers true. No condition. -/
import Derived.Test.YtoonddgldmfleaaQSpreadScoresx14
import Derived.Test.YtoonddgldmfleaaP64
import Derived.Test.YtoonddgldmfleaaDig
import Derived.Test.YtoonddgldmfleaaSums
namespace Go.Proofs.Ytoonddgldmfleaa.Pure
open Go.RowKit Go.Proofs.Ytoonddgldmfleaa.QSpreadScores Go.Proofs.YtoonddgldmfleaaW.PrintWords Go.Proofs.YtoonddgldmfleaaW.PrintLast
open Go.Proofs.Ytoonddgldmfleaa.P64 Go.Proofs.Ytoonddgldmfleaa.Dig Go.Proofs.Ytoonddgldmfleaa.Sums
namespace SpreadScores0
theorem compare_f (a b : Int) : cmp_Compare_uint64.f a b = some (cmpI a b) := by
  unfold cmp_Compare_uint64.f cmp_isNaN_uint64.f cmpI
  rw [Option.bind_some, Option.bind_some, if_neg (by simp), if_neg (by simp)]
  split
  · rfl
  · split <;> rfl
theorem or_f (k : Nat) (hk : 3 ≤ k) (a b : Int) : cmp_Or_int.f k [a, b] = some (if a = 0 then b else a) := by
  obtain ⟨k, rfl⟩ : ∃ m, k = m + 3 := ⟨k - 3, by omega⟩
  unfold cmp_Or_int.f
  rw [cmp_Or_int.l0, if_pos (by simp), if_pos (by omega), if_pos (by simp)]
  rw [show rd [a, b] 0 = a from rfl, show wrap64 (0 + 1) = 1 by unfold wrap64; omega]
  by_cases ha : a = 0
  · rw [if_pos ha, cmp_Or_int.l0, if_pos (by simp), if_pos (by omega), if_pos (by simp), show rd [a, b] 1 = b from rfl, show wrap64 (1 + 1) = 2 by unfold wrap64; omega, if_pos ha]
    by_cases hb : b = 0
    · rw [if_pos hb, cmp_Or_int.l0, if_neg (by simp), hb]
    · rw [if_neg hb]
  · rw [if_neg ha, if_neg ha]
theorem cmp_f (k : Nat) (hk : 3 ≤ k) (X Y : Int) : prod_Cmp.f k (X / 18446744073709551616) (X % 18446744073709551616) (Y / 18446744073709551616) (Y % 18446744073709551616) = some (cmpI X Y) := by
  unfold prod_Cmp.f
  rw [compare_f, Option.bind_some, compare_f, Option.bind_some, or_f k hk, Option.bind_some]
  congr 1
  unfold cmpI
  by_cases h1 : X / 18446744073709551616 < Y / 18446744073709551616
  · rw [if_pos h1, if_neg (by decide), if_pos (by omega)]
  · rw [if_neg h1]
    by_cases h2 : Y / 18446744073709551616 < X / 18446744073709551616
    · rw [if_pos h2, if_neg (by decide), if_neg (by omega), if_pos (by omega)]
    · rw [if_neg h2, if_pos rfl]
      by_cases h3 : X % 18446744073709551616 < Y % 18446744073709551616
      · rw [if_pos h3, if_pos (by omega)]
      · rw [if_neg h3, if_neg (show ¬ X < Y by omega)]
        by_cases h4 : Y % 18446744073709551616 < X % 18446744073709551616
        · rw [if_pos h4, if_pos (by omega)]
        · rw [if_neg h4, if_neg (by omega)]
theorem size_f (a : Int) : prod_size.f a = some (sizeI a) := by unfold prod_size.f sizeI; split <;> rfl
theorem mul_f (a b : Int) : prod_Mul.f a b = some (mul64 a b) := rfl
/-- A wide number's words. -/
def wideD (X : Int) : Int × Int := (X / 18446744073709551616, X % 18446744073709551616)
theorem square_f {a : Int} (a0 : -9223372036854775808 ≤ a) (a1 : a ≤ 9223372036854775807) : prod_Square.f a = some (wideD (a * a)) := by
  unfold prod_Square.f wideD
  rw [size_f, Option.bind_some, Option.bind_some, mul_f, Option.bind_some, sizeI_eq a0 a1, mul64_eq (by omega) (by omega) (by omega) (by omega), Int.natAbs_mul_self']
/-- May these be a moment's numbers? -/
def MayP (c s q : Int) : Prop := (c = 0 ∧ s = 0 ∧ q = 0) ∨ (1 ≤ c ∧ c ≤ 1048576 ∧ 0 ≤ q ∧ q ≤ 1099511627776 * c ∧ -(1048576 * c) ≤ s ∧ s ≤ 1048576 * c ∧ s * s ≤ c * q)
instance (c s q : Int) : Decidable (MayP c s q) := by unfold MayP; exact inferInstance
def InI (n : Int) : Prop := -9223372036854775808 ≤ n ∧ n ≤ 9223372036854775807
theorem bound_f {c s q : Int} (c0 : 0 ≤ c) (c1 : c ≤ 9223372036854775807) (q0 : 0 ≤ q) (q1 : q ≤ 9223372036854775807) : spread_bound.f c s q = some (wideD (c * q)) := by
  unfold spread_bound.f wideD
  rw [uwrap_id c0 (by omega), uwrap_id q0 (by omega), mul_f, Option.bind_some, mul64_eq (by omega) (by omega) (by omega) (by omega)]
theorem may_f (k : Nat) (hk : 10 ≤ k) {c s q : Int} (hc : InI c) (hs : InI s) (hq : InI q) : spread_May.f k c s q = some (decide (MayP c s q)) := by
  unfold InI at hc hs hq
  obtain ⟨k, rfl⟩ : ∃ m, k = m + 5 := ⟨k - 5, by omega⟩
  unfold spread_May.f spread_none.f
  rw [Option.bind_some]
  by_cases h0 : c = 0 ∧ s = 0 ∧ q = 0
  · obtain ⟨rfl, rfl, rfl⟩ := h0
    rw [if_pos (by decide), decide_eq_true (show MayP 0 0 0 from .inl ⟨rfl, rfl, rfl⟩)]
  · rw [if_neg (by simpa using h0)]
    have jt : ∀ m, spread_May.j0 (m + 1) true c s q = some false := fun m => by rw [spread_May.j0, if_pos rfl]
    by_cases h1 : c < 1
    · rw [if_pos h1, jt, decide_eq_false]
      rintro (h | h)
      · exact h0 h
      · omega
    · rw [if_neg h1]
      by_cases h2 : c > 1048576
      · rw [if_pos h2, jt, decide_eq_false]
        rintro (h | h)
        · exact h0 h
        · omega
      · rw [if_neg h2]
        by_cases h3 : q < 0
        · rw [if_pos h3, jt, decide_eq_false]
          rintro (h | h)
          · exact h0 h
          · omega
        · rw [if_neg h3, wrap64_id (n := 1099511627776 * c) (by omega) (by omega)]
          by_cases h4 : q > 1099511627776 * c
          · rw [decide_eq_true h4, jt, decide_eq_false]
            rintro (h | h)
            · exact h0 h
            · omega
          · rw [decide_eq_false h4, spread_May.j0, if_neg (by decide), wrap64_id (n := 1048576 * c) (by omega) (by omega), wrap64_id (n := -1048576 * c) (by omega) (by omega)]
            have jt2 : ∀ m, spread_May.j1 (m + 1) true c s q = some false := fun m => by rw [spread_May.j1, if_pos rfl]
            by_cases h5 : s > 1048576 * c
            · rw [if_pos h5, jt2, decide_eq_false]
              rintro (h | h)
              · exact h0 h
              · omega
            · rw [if_neg h5]
              by_cases h6 : s < -1048576 * c
              · rw [decide_eq_true h6, jt2, decide_eq_false]
                rintro (h | h)
                · exact h0 h
                · omega
              · rw [decide_eq_false h6, spread_May.j1, if_neg (by decide), square_f hs.1 hs.2, Option.bind_some, bound_f (by omega) (by omega) (by omega) (by omega), Option.bind_some]
                unfold wideD
                rw [cmp_f _ (by omega), Option.bind_some]
                congr 1
                rw [decide_eq_decide]
                unfold cmpI MayP
                constructor
                · intro h
                  refine .inr ⟨by omega, by omega, by omega, by omega, by omega, by omega, ?_⟩
                  by_cases h7 : s * s < c * q
                  · omega
                  · rw [if_neg h7] at h
                    by_cases h8 : c * q < s * s
                    · rw [if_pos h8] at h; omega
                    · omega
                · rintro (h | ⟨_, _, _, _, _, _, h⟩)
                  · exact absurd h h0
                  · split
                    · omega
                    · rw [if_neg (by omega)]; omega
theorem there_f (k : Nat) (hk : 10 ≤ k) {c s q : Int} (hc : InI c) (hs : InI s) (hq : InI q) : spread_there.f k c s q = some (decide (0 < c ∧ MayP c s q)) := by
  unfold spread_there.f
  by_cases h : c > 0
  · rw [if_pos h, may_f k hk hc hs hq, Option.bind_some]
    congr 1
    rw [decide_eq_decide]
    exact ⟨fun h1 => ⟨h, h1⟩, fun h1 => h1.2⟩
  · rw [if_neg h, decide_eq_false (fun h1 => h h1.1)]
theorem floor_f {a b : Int} (a0 : -9223372036854775808 ≤ a) (a1 : a ≤ 9223372036854775807) (hb : 1 ≤ b) : prod_Floor.f a b = some (a / b, 0) := by
  unfold prod_Floor.f
  rw [if_neg (by omega), if_neg (by omega)]
  exact floor_eq a0 a1 hb
theorem mean_f (k : Nat) (hk : 10 ≤ k) {c s q : Int} (hc : InI c) (hs : InI s) (hq : InI q) : spread_Mean.f k c s q = some (if 0 < c ∧ MayP c s q then (s / c, true) else (0, false)) := by
  unfold spread_Mean.f
  rw [there_f k hk hc hs hq, Option.bind_some]
  by_cases h : 0 < c ∧ MayP c s q
  · rw [decide_eq_true h, if_pos rfl, if_pos h, floor_f hs.1 hs.2 (by omega), Option.bind_some]
  · rw [decide_eq_false h, if_neg (by decide), if_neg h]
theorem alone_f (k : Nat) (hk : 10 ≤ k) {c s q : Int} (hc : InI c) (hs : InI s) (hq : InI q) : spread_Alone.f k c s q = some (if 0 < c ∧ MayP c s q then ((wideD (s * s)).1, (wideD (s * s)).2, c) else (0, 0, 0)) := by
  unfold spread_Alone.f
  rw [there_f k hk hc hs hq, Option.bind_some]
  by_cases h : 0 < c ∧ MayP c s q
  · unfold InI at hc hs
    rw [decide_eq_true h, if_pos rfl, if_pos h, square_f hs.1 hs.2, Option.bind_some, uwrap_id (by omega) (by omega)]
  · rw [decide_eq_false h, if_neg (by decide), if_neg h]
theorem fixed_f (k : Nat) (hk : 10 ≤ k) : hornbeamlaw15_fixed.f k = some true := by
  have hm : (0 : Int) < 3 ∧ MayP 3 7 19 := by decide
  unfold hornbeamlaw15_fixed.f
  rw [mean_f k hk (by unfold InI; omega) (by unfold InI; omega) (by unfold InI; omega), Option.bind_some, alone_f k hk (by unfold InI; omega) (by unfold InI; omega) (by unfold InI; omega), Option.bind_some, if_pos hm, if_pos hm]
  rfl
theorem pure_f (k : Nat) (hk : 10 ≤ k) {c s q : Int} (hc : InI c) (hs : InI s) (hq : InI q) : spread_Pure.f k c s q = some (decide (MayP c s q ∧ s * s = c * q)) := by
  unfold spread_Pure.f
  rw [may_f k hk hc hs hq, Option.bind_some]
  by_cases h : MayP c s q
  · have hb : 0 ≤ c ∧ 0 ≤ q := by rcases h with h | h <;> omega
    unfold InI at hc hs hq
    rw [decide_eq_true h, if_pos rfl, square_f hs.1 hs.2, Option.bind_some, bound_f hb.1 (by omega) hb.2 (by omega), Option.bind_some]
    unfold wideD
    rw [cmp_f _ (by omega), Option.bind_some]
    congr 1
    unfold cmpI
    by_cases h7 : s * s < c * q
    · rw [if_pos h7, decide_eq_false (fun h1 => by omega)]; rfl
    · rw [if_neg h7]
      by_cases h8 : c * q < s * s
      · rw [if_pos h8, decide_eq_false (fun h1 => by omega)]; rfl
      · rw [if_neg h8, decide_eq_true ⟨h, by omega⟩]; rfl
  · rw [decide_eq_false h, if_neg (by decide), decide_eq_false (fun h1 => h h1.1)]
theorem add64_f {a b c : Int} (a0 : 0 ≤ a) (b0 : 0 ≤ b) (c0 : 0 ≤ c) (c1 : c ≤ 1) : bits_Add64.f a b c = some ((a + b + c) % 18446744073709551616, (a + b + c) / 18446744073709551616) := by
  unfold bits_Add64.f
  rw [if_pos ⟨a0, b0, c0, c1⟩]
theorem times_f {h l n : Int} (h0 : 0 ≤ h) (h1 : h < 18446744073709551616) (l0 : 0 ≤ l) (l1 : l < 18446744073709551616) (n0 : 0 ≤ n) (n1 : n < 18446744073709551616) :
    prod_Times.f h l n = some (longD ((h * 18446744073709551616 + l) * n)) := by
  unfold prod_Times.f
  rw [show bits_Mul64.f l n = some (mul64 l n) from rfl, show bits_Mul64.f h n = some (mul64 h n) from rfl, Option.bind_some, Option.bind_some, mul64_eq l0 l1 n0 n1, mul64_eq h0 h1 n0 n1]
  have p1 := mul_bound64 l0 l1 n0 n1
  have p2 := mul_bound64 h0 h1 n0 n1
  have e : (h * 18446744073709551616 + l) * n = (h * n) * 18446744073709551616 + l * n := by rw [Int.add_mul, Int.mul_right_comm]
  rw [e]
  unfold longD
  generalize h * n = q at *
  generalize l * n = p at *
  rw [add64_f (by omega) (by omega) (by omega) (by omega), Option.bind_some, uwrap_id (by omega) (by omega)]
  simp only [Option.some.injEq, Prod.mk.injEq]
  omega
theorem add_f {a b c d : Int} (a0 : 0 ≤ a) (a1 : a < 18446744073709551616) (b0 : 0 ≤ b) (b1 : b < 18446744073709551616) (c0 : 0 ≤ c) (c1 : c < 18446744073709551616) (d0 : 0 ≤ d) (d1 : d < 18446744073709551616) :
    prod_Add.f a b c d = some (wideSum (a * 18446744073709551616 + b + (c * 18446744073709551616 + d))) := by
  unfold prod_Add.f
  rw [add64_f b0 d0 (by omega) (by omega), Option.bind_some, add64_f a0 c0 (by omega) (by omega), Option.bind_some]
  unfold wideSum
  have e1 : (b + d + 0) / 18446744073709551616 = (b + d) / 18446744073709551616 := by rw [Int.add_zero]
  have e2 : (a * 18446744073709551616 + b + (c * 18446744073709551616 + d)) / 18446744073709551616 = a + c + (b + d) / 18446744073709551616 := by omega
  have e3 : (a * 18446744073709551616 + b + (c * 18446744073709551616 + d)) % 18446744073709551616 = (b + d) % 18446744073709551616 := by omega
  rw [e1, e2, e3, Int.add_zero]
  by_cases h : (a + c + (b + d) / 18446744073709551616) / 18446744073709551616 = 0
  · rw [if_pos h, if_pos (by omega), Int.emod_eq_of_lt (a := a + c + (b + d) / 18446744073709551616) (by omega) (by omega)]
  · rw [if_neg h, if_neg (by omega)]
theorem there_bound {c s q : Int} (h : 0 < c ∧ MayP c s q) : c ≤ 1048576 ∧ 0 ≤ s * s ∧ s * s ≤ 1208925819614629174706176 := by
  obtain ⟨h0, h | h⟩ := h
  · omega
  · have e : s * s = (s.natAbs : Int) * s.natAbs := (Int.natAbs_mul_self' s).symm
    have := Int.mul_le_mul (a := (s.natAbs : Int)) (b := (s.natAbs : Int)) (c := 1099511627776) (d := 1099511627776) (by omega) (by omega) (by omega) (by omega)
    have := sq_nonneg' s
    omega
theorem sside_f {c s q c2 s2 q2 : Int} (hs : InI s) (h : 0 < c ∧ MayP c s q) (h2 : 0 < c2 ∧ MayP c2 s2 q2) : spread_side.f c s q c2 s2 q2 = some (wideD (s * s * c2)) := by
  have b := there_bound h; have b2 := there_bound h2
  have hb : 0 ≤ s * s * c2 ∧ s * s * c2 ≤ 1208925819614629174706176 * 1048576 := ⟨Int.mul_nonneg b.2.1 (by omega), Int.mul_le_mul b.2.2 b2.1 (by omega) (by omega)⟩
  unfold spread_side.f
  rw [square_f hs.1 hs.2, Option.bind_some, uwrap_id (by omega) (by omega)]
  unfold wideD
  rw [times_f (h := s * s / 18446744073709551616) (l := s * s % 18446744073709551616) (n := c2) (by omega) (by omega) (by omega) (by omega) (by omega) (by omega), Option.bind_some]
  have e : s * s / 18446744073709551616 * 18446744073709551616 + s * s % 18446744073709551616 = s * s := by omega
  rw [e]
  unfold longD
  rw [Int.emod_eq_of_lt (a := s * s * c2 / 18446744073709551616) (by omega) (by omega)]
theorem score_f (k : Nat) (hk : 12 ≤ k) {c s q c2 s2 q2 : Int} (hc : InI c) (hs : InI s) (hq : InI q) (hc2 : InI c2) (hs2 : InI s2) (hq2 : InI q2) :
    spread_Score.f k c s q c2 s2 q2 = some (if (0 < c ∧ MayP c s q) ∧ (0 < c2 ∧ MayP c2 s2 q2) then ((wideD (s * s * c2 + s2 * s2 * c)).1, (wideD (s * s * c2 + s2 * s2 * c)).2, c * c2) else (0, 0, 0)) := by
  obtain ⟨k, rfl⟩ : ∃ m, k = m + 1 := ⟨k - 1, by omega⟩
  have jt : spread_Score.j0 (k + 1) true c s q c2 s2 q2 = some (0, 0, 0) := by rw [spread_Score.j0, if_pos rfl]
  unfold spread_Score.f
  rw [there_f _ (by omega) hc hs hq, Option.bind_some]
  by_cases h : 0 < c ∧ MayP c s q
  · rw [decide_eq_true h, if_pos rfl, there_f _ (by omega) hc2 hs2 hq2, Option.bind_some]
    by_cases h2 : 0 < c2 ∧ MayP c2 s2 q2
    · have b := there_bound h; have b2 := there_bound h2
      have hb : 0 ≤ s * s * c2 ∧ s * s * c2 ≤ 1208925819614629174706176 * 1048576 := ⟨Int.mul_nonneg b.2.1 (by omega), Int.mul_le_mul b.2.2 b2.1 (by omega) (by omega)⟩
      have hb2 : 0 ≤ s2 * s2 * c ∧ s2 * s2 * c ≤ 1208925819614629174706176 * 1048576 := ⟨Int.mul_nonneg b2.2.1 (by omega), Int.mul_le_mul b2.2.2 b.1 (by omega) (by omega)⟩
      have hcc : 0 ≤ c * c2 ∧ c * c2 ≤ 1048576 * 1048576 := ⟨Int.mul_nonneg (by omega) (by omega), Int.mul_le_mul b.1 b2.1 (by omega) (by omega)⟩
      rw [decide_eq_true h2, Bool.not_true, spread_Score.j0, if_neg (by decide), if_pos (show (0 < c ∧ MayP c s q) ∧ (0 < c2 ∧ MayP c2 s2 q2) from ⟨h, h2⟩), sside_f hs h h2, Option.bind_some, sside_f hs2 h2 h, Option.bind_some]
      unfold wideD
      rw [add_f (a := s * s * c2 / 18446744073709551616) (b := s * s * c2 % 18446744073709551616) (c := s2 * s2 * c / 18446744073709551616) (d := s2 * s2 * c % 18446744073709551616) (by omega) (by omega) (by omega) (by omega) (by omega) (by omega) (by omega) (by omega), Option.bind_some]
      have e : s * s * c2 / 18446744073709551616 * 18446744073709551616 + s * s * c2 % 18446744073709551616 + (s2 * s2 * c / 18446744073709551616 * 18446744073709551616 + s2 * s2 * c % 18446744073709551616) = s * s * c2 + s2 * s2 * c := by omega
      rw [e]
      unfold wideSum
      rw [if_pos (by omega), uwrap_id (n := c) (by omega) (by omega), uwrap_id (n := c2) (by omega) (by omega), uwrap_id (n := c * c2) (by omega) (by omega)]
    · rw [decide_eq_false h2, Bool.not_false, jt, if_neg (show ¬ ((0 < c ∧ MayP c s q) ∧ (0 < c2 ∧ MayP c2 s2 q2)) from fun h3 => h2 h3.2)]
  · rw [decide_eq_false h, if_neg (by decide), jt, if_neg (show ¬ ((0 < c ∧ MayP c s q) ∧ (0 < c2 ∧ MayP c2 s2 q2)) from fun h3 => h h3.1)]
theorem digits_f {n : Int} (h0 : 0 ≤ n) (h1 : n < 18446744073709551616) : hornbeamref04_Digits.f n = some (dig4 n) := by
  unfold hornbeamref04_Digits.f dig4
  rw [Int.tmod_eq_emod_of_nonneg h0, Int.tdiv_eq_ediv_of_nonneg h0, Int.tdiv_eq_ediv_of_nonneg h0, Int.tdiv_eq_ediv_of_nonneg h0, uwrap_id (by omega) (by omega), uwrap_id (by omega) (by omega), uwrap_id (by omega) (by omega),
    Int.tmod_eq_emod_of_nonneg (by omega), Int.tmod_eq_emod_of_nonneg (by omega)]
theorem ofwide_f {h l : Int} (h0 : 0 ≤ h) (h1 : h < 18446744073709551616) (l0 : 0 ≤ l) (l1 : l < 18446744073709551616) : ∃ r, hornbeamref04_OfWide.f h l = some r ∧ r.length = 8 ∧ Dg r ∧ V r = h * 18446744073709551616 + l := by
  refine ⟨dig4 l ++ dig4 h, ?_, rfl, (dig4_Dg l0 l1).append (dig4_Dg h0 h1), ?_⟩
  · unfold hornbeamref04_OfWide.f
    rw [digits_f l0 l1, Option.bind_some, digits_f h0 h1, Option.bind_some, if_pos (by rw [dig4_len, dig4_len]; omega)]
  · rw [V_append, dig4_V, dig4_V, dig4_len, show (65536 : Int) ^ 4 = 18446744073709551616 from rfl]; omega
theorem rd_nat (l : List Int) (i : Nat) : rd l (i : Int) = l.getD i 0 := rfl
theorem number_f {l : List Int} (hl : l.length = 4) (hd : Dg l) : hornbeamref04_number.f l = some (V l) := by
  obtain ⟨a, b, c, d, rfl⟩ := len4 hl
  have ha := hd.head; have hb := hd.tail.head; have hc := hd.tail.tail.head; have hdd := hd.tail.tail.tail.head
  unfold hornbeamref04_number.f
  simp only [List.length_cons, List.length_nil]
  rw [if_pos (by decide), if_pos (by decide), if_pos (by decide), if_pos (by decide)]
  simp only [rd, List.getD_cons_zero, List.getD_cons_succ, show (0 : Int).toNat = 0 from rfl, show (1 : Int).toNat = 1 from rfl, show (2 : Int).toNat = 2 from rfl, show (3 : Int).toNat = 3 from rfl, V]
  rw [uwrap_id (n := b * 65536) (by omega) (by omega), uwrap_id (n := c * 4294967296) (by omega) (by omega), uwrap_id (n := d * 281474976710656) (by omega) (by omega),
    uwrap_id (n := a + b * 65536) (by omega) (by omega), uwrap_id (n := a + b * 65536 + c * 4294967296) (by omega) (by omega), uwrap_id (by omega) (by omega)]
  congr 1; omega
theorem product_l1 (a b : List Int) (ha : Dg a) (hb : Dg b) (la : a.length ≤ 100) (lb : b.length ≤ 100) (i : Nat) (hi : i < a.length) (d : Nat) :
    ∀ (j : Nat) (o : List Int) (c : Int), j + d = b.length → o.length = a.length + b.length → Dg o → 0 ≤ c → c < 65536 → (∀ m, i + b.length ≤ m → o.getD m 0 = 0) →
    ∃ r, (∀ k, hornbeamref04_Product.l1 (k + (d + 1)) a b o (i : Int) c (j : Int) = hornbeamref04_Product.l0 k a b r ((i + 1 : Nat) : Int)) ∧ r.length = a.length + b.length ∧ Dg r ∧
      V r = V o + (a.getD i 0 * V (b.drop j)) * 65536 ^ (i + j) + c * 65536 ^ (i + j) ∧ (∀ m, i + 1 + b.length ≤ m → r.getD m 0 = 0) := by
  induction d with
  | zero =>
    intro j o c hj ho hd c0 c1 hz
    have hjb : j = b.length := by omega
    subst hjb
    refine ⟨o.set (i + b.length) c, ?_, by rw [List.length_set]; exact ho, hd.set _ c0 c1, ?_, ?_⟩
    · intro k
      rw [hornbeamref04_Product.l1, if_neg (by omega), show wrap64 ((i : Int) + (b.length : Int)) = ((i + b.length : Nat) : Int) by unfold wrap64; omega, if_pos (by omega), if_pos (by omega),
        show wrap64 ((i : Int) + 1) = ((i + 1 : Nat) : Int) by unfold wrap64; omega]
      rfl
    · rw [V_set _ _ (by omega), hz _ (Nat.le_refl _), List.drop_length, V, Int.mul_zero, Int.zero_mul, Int.add_zero, Int.sub_zero]
    · intro m hm
      rw [digs_set_ne _ (by omega)]
      exact hz m (by omega)
  | succ d ih =>
    intro j o c hj ho hd c0 c1 hz
    have hA := ha.getD i; have hB := hb.getD j; have hO := hd.getD (i + j)
    have hP := mul_bound16 hA.1 hA.2 hB.1 hB.2
    obtain ⟨n, hn⟩ : ∃ n, n = o.getD (i + j) 0 + a.getD i 0 * b.getD j 0 + c := ⟨_, rfl⟩
    have n0 : 0 ≤ n := by omega
    have n1 : n < 4294967296 := by omega
    obtain ⟨r, hr, r1, r2, r3, r4⟩ := ih (j + 1) (o.set (i + j) (n % 65536)) (n / 65536) (by omega) (by rw [List.length_set]; exact ho) (hd.set _ (by omega) (by omega)) (by omega) (by omega) (by
      intro m hm
      rw [digs_set_ne _ (by omega)]
      exact hz m hm)
    refine ⟨r, ?_, r1, r2, ?_, r4⟩
    · intro k
      rw [show k + (d + 1 + 1) = k + (d + 1) + 1 by omega, hornbeamref04_Product.l1, if_pos (by omega), show wrap64 ((i : Int) + (j : Int)) = ((i + j : Nat) : Int) by unfold wrap64; omega, if_pos (by omega), if_pos (by omega), if_pos (by omega), if_pos (by omega), if_pos (by omega)]
      rw [rd_nat, rd_nat, rd_nat, uwrap_id (n := a.getD i 0 * b.getD j 0) (by omega) (by omega), uwrap_id (n := o.getD (i + j) 0 + a.getD i 0 * b.getD j 0) (by omega) (by omega), ← hn, uwrap_id (n := n) (by omega) (by omega),
        Int.tmod_eq_emod_of_nonneg n0, Int.tdiv_eq_ediv_of_nonneg n0, uwrap_id (by omega) (by omega), show wrap64 ((j : Int) + 1) = ((j + 1 : Nat) : Int) by unfold wrap64; omega]
      exact hr k
    · rw [r3, V_set _ _ (by omega), V_drop j (by omega), show i + (j + 1) = i + j + 1 by omega, Int.pow_succ]
      generalize (65536 : Int) ^ (i + j) = P at *
      generalize V (b.drop (j + 1)) = W at *
      have e1 : a.getD i 0 * (b.getD j 0 + 65536 * W) * P = a.getD i 0 * b.getD j 0 * P + a.getD i 0 * W * (P * 65536) := by
        rw [Int.mul_add, Int.add_mul, Int.mul_left_comm (a.getD i 0) 65536 W, Int.mul_comm 65536 (a.getD i 0 * W), Int.mul_assoc (a.getD i 0 * W), Int.mul_comm 65536 P]
      rw [e1]
      have e2 : a.getD i 0 * b.getD j 0 * P + c * P = (n - o.getD (i + j) 0) * P := by rw [← Int.add_mul]; congr 1; omega
      have e3 : (n % 65536 - o.getD (i + j) 0) * P + n / 65536 * (P * 65536) = (n - o.getD (i + j) 0) * P := by
        rw [Int.mul_comm P 65536, ← Int.mul_assoc, ← Int.add_mul]; congr 1; omega
      omega
theorem product_l0 (a b : List Int) (ha : Dg a) (hb : Dg b) (la : a.length ≤ 100) (lb : b.length ≤ 100) (d : Nat) :
    ∀ (i : Nat) (o : List Int), i + d = a.length → o.length = a.length + b.length → Dg o → (∀ m, i + b.length ≤ m → o.getD m 0 = 0) →
    ∃ r, (∀ k, hornbeamref04_Product.l0 (k + (d * (b.length + 2) + 1)) a b o (i : Int) = some r) ∧ r.length = a.length + b.length ∧ Dg r ∧ V r = V o + V (a.drop i) * V b * 65536 ^ i := by
  induction d with
  | zero =>
    intro i o hi ho hd hz
    refine ⟨o, ?_, ho, hd, ?_⟩
    · intro k
      rw [Nat.zero_mul, Nat.zero_add, hornbeamref04_Product.l0, if_neg (by omega)]
    · rw [List.drop_eq_nil_of_le (by omega), V, Int.zero_mul, Int.zero_mul, Int.add_zero]
  | succ d ih =>
    intro i o hi ho hd hz
    obtain ⟨o1, h1, h2, h3, h4, h5⟩ := product_l1 a b ha hb la lb i (by omega) b.length 0 o 0 (by omega) ho hd (by omega) (by omega) hz
    obtain ⟨r, g1, g2, g3, g4⟩ := ih (i + 1) o1 (by omega) h2 h3 h5
    refine ⟨r, ?_, g2, g3, ?_⟩
    · intro k
      rw [show k + ((d + 1) * (b.length + 2) + 1) = k + (d * (b.length + 2) + 1) + (b.length + 1) + 1 by rw [Nat.add_mul]; omega, hornbeamref04_Product.l0, if_pos (by omega)]
      exact (h1 _).trans (g1 k)
    · rw [g4, h4, V_drop i (by omega), List.drop_zero, Nat.add_zero, Int.zero_mul, Int.add_zero, Int.pow_succ]
      generalize (65536 : Int) ^ i = P at *
      generalize V (a.drop (i + 1)) = W at *
      generalize V b = Y at *
      rw [Int.add_mul, Int.add_mul, Int.mul_comm P 65536, ← Int.mul_assoc (W * Y), Int.mul_comm (W * Y) 65536, ← Int.mul_assoc 65536 W Y]
      omega
theorem product_f (a b : List Int) (ha : Dg a) (hb : Dg b) (la : a.length ≤ 100) (lb : b.length ≤ 100) :
    ∃ r, (∀ k, 10300 ≤ k → hornbeamref04_Product.f k a b = some r) ∧ r.length = a.length + b.length ∧ Dg r ∧ V r = V a * V b := by
  have e : wrap64 ((a.length : Int) + (b.length : Int)) = ((a.length + b.length : Nat) : Int) := by unfold wrap64; omega
  obtain ⟨r, h1, h2, h3, h4⟩ := product_l0 a b ha hb la lb a.length 0 (List.replicate (a.length + b.length) 0) (by omega) (List.length_replicate) (Dg.replicate _) (by
    intro m _
    by_cases h : m < a.length + b.length <;> simp [List.getD, h])
  refine ⟨r, ?_, h2, h3, ?_⟩
  · intro k hk
    have hm : a.length * (b.length + 2) ≤ 100 * 102 := Nat.mul_le_mul la (by omega)
    unfold hornbeamref04_Product.f
    rw [e, if_pos (by omega), Int.toNat_natCast, if_pos (by omega)]
    have := h1 (k - (a.length * (b.length + 2) + 1))
    rw [show k - (a.length * (b.length + 2) + 1) + (a.length * (b.length + 2) + 1) = k by omega] at this
    exact this
  · rw [h4, V_replicate, List.drop_zero, Int.pow_zero, Int.mul_one, Int.zero_add]
theorem rmul_f {a b : Int} (a0 : 0 ≤ a) (a1 : a < 18446744073709551616) (b0 : 0 ≤ b) (b1 : b < 18446744073709551616) (k : Nat) (hk : 10300 ≤ k) :
    hornbeamref04_Mul.f k a b = some (a * b / 18446744073709551616, a * b % 18446744073709551616) := by
  obtain ⟨r, h1, h2, h3, h4⟩ := product_f (dig4 a) (dig4 b) (dig4_Dg a0 a1) (dig4_Dg b0 b1) (by rw [dig4_len]; omega) (by rw [dig4_len]; omega)
  rw [dig4_len, dig4_len] at h2
  rw [dig4_V, dig4_V] at h4
  unfold hornbeamref04_Mul.f
  have t1 : (r.take 4).length = 4 := by rw [List.length_take]; omega
  have t2 : (r.drop 4).length = 4 := by rw [List.length_drop]; omega
  rw [digits_f a0 a1, Option.bind_some, digits_f b0 b1, Option.bind_some, h1 k hk, Option.bind_some, if_pos (by omega), number_f t2 (h3.drop 4), Option.bind_some, number_f t1 (h3.take 4), Option.bind_some]
  have e := V_take_drop r 4 (by omega)
  have u1 := V_lt (h3.take 4); have u2 := V_nonneg (h3.take 4)
  rw [t1] at u1
  rw [h4] at e
  rw [show (65536 : Int) ^ 4 = 18446744073709551616 from rfl] at e u1
  simp only [Option.some.injEq, Prod.mk.injEq]
  omega
theorem rsize_f {a : Int} (a0 : -9223372036854775808 ≤ a) (a1 : a ≤ 9223372036854775807) : hornbeamref04_Size.f a = some ((a.natAbs : Nat) : Int) := by
  unfold hornbeamref04_Size.f
  split
  · rw [uwrap_id (by omega) (by omega)]; congr 1; omega
  · rw [wrap64_id (n := a + 1) (by omega) (by omega), wrap64_id (by omega) (by omega), uwrap_id (n := -(a + 1)) (by omega) (by omega), uwrap_id (by omega) (by omega)]; congr 1; omega
theorem sum_l (a b : List Int) (ha : Dg a) (hb : Dg b) (hl : a.length = b.length) (la : a.length ≤ 100) (d : Nat) :
    ∀ (i : Nat) (o : List Int) (c : Int), i + d = a.length → o.length ≤ i → 0 ≤ c → c ≤ 1 →
    ∃ r, (∀ k, hornbeamref04_Sum.l0 (k + (d + 1)) a b o c (i : Int) = some (o ++ r)) ∧ r.length = d + 1 ∧ Dg r ∧ V r = V (a.drop i) + V (b.drop i) + c := by
  induction d with
  | zero =>
    intro i o c hi ho c0 c1
    refine ⟨[c], ?_, rfl, Dg.cons (by omega) (by omega) Dg.nil, ?_⟩
    · intro k
      rw [hornbeamref04_Sum.l0, if_neg (by omega), if_pos (by omega)]
    · rw [List.drop_eq_nil_of_le (by omega), List.drop_eq_nil_of_le (by omega)]; simp [V]
  | succ d ih =>
    intro i o c hi ho c0 c1
    have hA := ha.getD i; have hB := hb.getD i
    obtain ⟨n, hn⟩ : ∃ n, n = a.getD i 0 + b.getD i 0 + c := ⟨_, rfl⟩
    have n0 : 0 ≤ n := by omega
    have n1 : n < 131072 := by omega
    obtain ⟨r, h1, h2, h3, h4⟩ := ih (i + 1) (o ++ [n % 65536]) (n / 65536) (by omega) (by rw [List.length_append, List.length_singleton]; omega) (by omega) (by omega)
    refine ⟨n % 65536 :: r, ?_, by rw [List.length_cons, h2], Dg.cons (by omega) (by omega) h3, ?_⟩
    · intro k
      rw [show k + (d + 1 + 1) = k + (d + 1) + 1 by omega, hornbeamref04_Sum.l0, if_pos (by omega), if_pos (by omega), if_pos (by omega), if_pos (by omega), rd_nat, rd_nat,
        uwrap_id (n := a.getD i 0 + b.getD i 0) (by omega) (by omega), ← hn, uwrap_id (n := n) (by omega) (by omega), Int.tmod_eq_emod_of_nonneg n0, Int.tdiv_eq_ediv_of_nonneg n0, uwrap_id (by omega) (by omega),
        show wrap64 ((i : Int) + 1) = ((i + 1 : Nat) : Int) by unfold wrap64; omega]
      rw [h1 k, List.append_assoc]; rfl
    · rw [V, h4, V_drop i (by omega), V_drop (l := b) i (by omega)]
      generalize V (a.drop (i + 1)) = p at *
      generalize V (b.drop (i + 1)) = q at *
      omega
theorem sum_f (a b : List Int) (ha : Dg a) (hb : Dg b) (hl : a.length = b.length) (la : a.length ≤ 100) :
    ∃ r, (∀ k, 101 ≤ k → hornbeamref04_Sum.f k a b = some r) ∧ r.length = a.length + 1 ∧ Dg r ∧ V r = V a + V b := by
  obtain ⟨r, h1, h2, h3, h4⟩ := sum_l a b ha hb hl la a.length 0 [] 0 (by omega) (by simp) (by omega) (by omega)
  refine ⟨r, ?_, h2, h3, ?_⟩
  · intro k hk
    have := h1 (k - (a.length + 1))
    rw [show k - (a.length + 1) + (a.length + 1) = k by omega] at this
    exact this
  · rw [h4, List.drop_zero, List.drop_zero, Int.add_zero]
/-- A list of eight digits and more: its words. -/
theorem words8 {r : List Int} (hd : Dg r) (h : 8 ≤ r.length) : V r = V (r.take 4) + 18446744073709551616 * V ((r.take 8).drop 4) + 340282366920938463463374607431768211456 * V (r.drop 8) ∧
    0 ≤ V (r.take 4) ∧ V (r.take 4) < 18446744073709551616 ∧ 0 ≤ V ((r.take 8).drop 4) ∧ V ((r.take 8).drop 4) < 18446744073709551616 ∧ 0 ≤ V (r.drop 8) := by
  have e1 := V_take_drop r 8 h
  have e2 := V_take_drop (r.take 8) 4 (by rw [List.length_take]; omega)
  rw [List.take_take, Nat.min_eq_left (by omega)] at e2
  rw [show (65536 : Int) ^ 8 = 340282366920938463463374607431768211456 from rfl] at e1
  rw [show (65536 : Int) ^ 4 = 18446744073709551616 from rfl] at e2
  have l1 : (r.take 4).length = 4 := by rw [List.length_take]; omega
  have l2 : ((r.take 8).drop 4).length = 4 := by rw [List.length_drop, List.length_take]; omega
  have u1 := V_lt (hd.take 4); have u2 := V_nonneg (hd.take 4)
  have v1 := V_lt ((hd.take 8).drop 4); have v2 := V_nonneg ((hd.take 8).drop 4)
  have w2 := V_nonneg (hd.drop 8)
  rw [l1, show (65536 : Int) ^ 4 = 18446744073709551616 from rfl] at u1
  rw [l2, show (65536 : Int) ^ 4 = 18446744073709551616 from rfl] at v1
  exact ⟨by omega, u2, u1, v2, v1, w2⟩
theorem radd_f {a b c d : Int} (a0 : 0 ≤ a) (a1 : a < 18446744073709551616) (b0 : 0 ≤ b) (b1 : b < 18446744073709551616) (c0 : 0 ≤ c) (c1 : c < 18446744073709551616) (d0 : 0 ≤ d) (d1 : d < 18446744073709551616) (k : Nat) (hk : 101 ≤ k) :
    hornbeamref04_Add.f k a b c d = some (wideSum (a * 18446744073709551616 + b + (c * 18446744073709551616 + d))) := by
  obtain ⟨x, x1, x2, x3, x4⟩ := ofwide_f a0 a1 b0 b1
  obtain ⟨y, y1, y2, y3, y4⟩ := ofwide_f c0 c1 d0 d1
  obtain ⟨r, r1, r2, r3, r4⟩ := sum_f x y x3 y3 (by omega) (by omega)
  obtain ⟨e, t0, t1, u0, u1, v0⟩ := words8 r3 (by omega)
  have hv : V (r.drop 8) = r.getD 8 0 := by
    rw [V_drop 8 (by omega), List.drop_eq_nil_of_le (by omega)]; simp [V]
  unfold hornbeamref04_Add.f
  rw [x1, Option.bind_some, y1, Option.bind_some, r1 k hk, Option.bind_some, if_pos (by omega), show rd r 8 = r.getD 8 0 from rfl, ← hv]
  rw [x4, y4] at r4
  rw [r4] at e
  unfold wideSum
  by_cases h : V (r.drop 8) > 0
  · rw [if_pos h, if_neg (by omega)]
  · rw [if_neg h, if_pos (by decide), if_pos (by omega), number_f (by rw [List.length_drop, List.length_take]; omega) ((r3.take 8).drop 4), Option.bind_some, if_pos (by omega), number_f (by rw [List.length_take]; omega) (r3.take 4), Option.bind_some, if_pos (by omega)]
    simp only [Option.some.injEq, Prod.mk.injEq]
    exact ⟨by omega, by omega, trivial⟩
theorem rtimesw_f {h l n : Int} (h0 : 0 ≤ h) (h1 : h < 18446744073709551616) (l0 : 0 ≤ l) (l1 : l < 18446744073709551616) (n0 : 0 ≤ n) (n1 : n < 18446744073709551616) (k : Nat) (hk : 10300 ≤ k) :
    hornbeamref04_Times.f k h l n = some (longD ((h * 18446744073709551616 + l) * n)) := by
  obtain ⟨x, x1, x2, x3, x4⟩ := ofwide_f h0 h1 l0 l1
  obtain ⟨r, r1, r2, r3, r4⟩ := product_f x (dig4 n) x3 (dig4_Dg n0 n1) (by omega) (by rw [dig4_len]; omega)
  rw [dig4_V, x4] at r4
  rw [dig4_len] at r2
  obtain ⟨e, t0, t1, u0, u1, v0⟩ := words8 r3 (by omega)
  unfold hornbeamref04_Times.f
  rw [x1, Option.bind_some, digits_f n0 n1, Option.bind_some, r1 k hk, Option.bind_some, if_pos (by omega), number_f (by rw [List.length_drop]; omega) (r3.drop 8), Option.bind_some, if_pos (by decide), number_f (by rw [List.length_drop, List.length_take]; omega) ((r3.take 8).drop 4), Option.bind_some,
    if_pos (by omega), number_f (by rw [List.length_take]; omega) (r3.take 4), Option.bind_some]
  rw [r4] at e
  generalize (h * 18446744073709551616 + l) * n = X at *
  generalize V (r.take 4) = p at *
  generalize V ((r.take 8).drop 4) = q at *
  generalize V (r.drop 8) = s at *
  unfold longD
  have f1 : X / 18446744073709551616 = q + 18446744073709551616 * s := by omega
  rw [f1]
  simp only [Option.some.injEq, Prod.mk.injEq]
  exact ⟨by omega, by omega, by omega⟩
theorem rcompare_l (a b : List Int) (ha : Dg a) (hb : Dg b) (hl : a.length = b.length) (h100 : a.length ≤ 100) (m : Nat) : ∀ (k : Nat), m ≤ a.length → m < k →
    hornbeamref04_Compare.l0 k a b ((m : Int) - 1) = some (cmpI (V (a.take m)) (V (b.take m))) := by
  induction m with
  | zero =>
    intro k _ hk
    obtain ⟨k, rfl⟩ : ∃ q, k = q + 1 := ⟨k - 1, by omega⟩
    rw [hornbeamref04_Compare.l0, if_neg (by omega)]
    rfl
  | succ m ih =>
    intro k hm hk
    obtain ⟨k, rfl⟩ : ∃ q, k = q + 1 := ⟨k - 1, by omega⟩
    have tk : ∀ (l : List Int), m < l.length → V (l.take (m + 1)) = V (l.take m) + 65536 ^ m * l.getD m 0 := by
      intro l h
      rw [List.take_succ_eq_append_getElem h, V_append, List.length_take, Nat.min_eq_left (by omega)]
      simp [V, List.getD, h]
    have u1 := V_lt (ha.take m); have u2 := V_nonneg (ha.take m)
    have v1 := V_lt (hb.take m); have v2 := V_nonneg (hb.take m)
    rw [List.length_take, Nat.min_eq_left (by omega)] at u1 v1
    rw [hornbeamref04_Compare.l0, show (((m + 1 : Nat) : Int) - 1) = (m : Int) by omega, if_pos (by omega), if_pos (by omega), if_pos (by omega), if_pos (by omega), rd_nat, rd_nat, show wrap64 ((m : Int) - 1) = (m : Int) - 1 by unfold wrap64; omega,
      ih k (by omega) (by omega), tk a (by omega), tk b (by omega)]
    generalize (65536 : Int) ^ m = P at *
    generalize V (a.take m) = x at *
    generalize V (b.take m) = y at *
    generalize a.getD m 0 = p at *
    generalize b.getD m 0 = q at *
    have key : ∀ s t : Int, s < t → P * s + P ≤ P * t := by
      intro s t h
      have := Int.mul_le_mul_of_nonneg_left (a := s + 1) (b := t) (c := P) (by omega) (by omega)
      rw [Int.mul_add, Int.mul_one] at this
      exact this
    unfold cmpI
    by_cases h1 : p < q
    · have := key p q h1
      rw [if_pos h1, if_pos (by omega)]
    · rw [if_neg h1]
      by_cases h2 : p > q
      · have := key q p h2
        rw [if_pos h2, if_neg (by omega), if_pos (by omega)]
      · have e : p = q := by omega
        subst e
        rw [if_neg h2]
        congr 1
        by_cases h3 : x < y
        · rw [if_pos h3, if_pos (by omega)]
        · rw [if_neg h3, if_neg (show ¬ (x + P * p < y + P * p) by omega)]
          by_cases h4 : y < x
          · rw [if_pos h4, if_pos (by omega)]
          · rw [if_neg h4, if_neg (by omega)]
theorem rcompare_f (a b : List Int) (ha : Dg a) (hb : Dg b) (hl : a.length = b.length) (h100 : a.length ≤ 100) (k : Nat) (hk : 101 ≤ k) :
    hornbeamref04_Compare.f k a b = some (cmpI (V a) (V b)) := by
  have := rcompare_l a b ha hb hl h100 a.length k (Nat.le_refl _) (by omega)
  rw [List.take_length, hl, List.take_length] at this
  unfold hornbeamref04_Compare.f
  rw [show wrap64 ((a.length : Int) - 1) = (a.length : Int) - 1 by unfold wrap64; omega, hl]
  exact this
theorem rcmpw_f (k : Nat) (hk : 101 ≤ k) {h l h2 l2 : Int} (h0 : 0 ≤ h) (h1 : h < 18446744073709551616) (l0 : 0 ≤ l) (l1 : l < 18446744073709551616) (g0 : 0 ≤ h2) (g1 : h2 < 18446744073709551616) (m0 : 0 ≤ l2) (m1 : l2 < 18446744073709551616) :
    hornbeamref04_Cmp.f k h l h2 l2 = some (cmpI (h * 18446744073709551616 + l) (h2 * 18446744073709551616 + l2)) := by
  obtain ⟨a, a1, a2, a3, a4⟩ := ofwide_f h0 h1 l0 l1
  obtain ⟨b, b1, b2, b3, b4⟩ := ofwide_f g0 g1 m0 m1
  unfold hornbeamref04_Cmp.f
  rw [a1, Option.bind_some, b1, Option.bind_some, rcompare_f a b a3 b3 (by omega) (by omega) k hk, Option.bind_some, a4, b4]
def In (n : Int) : Prop := -9223372036854775808 ≤ n ∧ n ≤ 9223372036854775807
theorem rfloor_f {a b : Int} (ha : In a) : hornbeamref04_Floor.f a b = if b < 1 then some (0, 1) else some (a / b, 0) := by
  unfold In at ha
  unfold hornbeamref04_Floor.f
  by_cases hb : b < 1
  · rw [if_pos hb, if_pos hb]
  · have hq := ediv_bounds ha.1 ha.2 (b := b) (by omega)
    rw [if_neg hb, if_neg hb]
    by_cases h : a ≥ 0
    · rw [if_pos h, if_neg (by omega), Int.tdiv_eq_ediv_of_nonneg h, wrap64_id hq.1 hq.2]
    · have hk := ediv_bounds (a := -(a + 1)) (b := b) (by omega) (by omega) (by omega)
      have hk0 := Int.ediv_nonneg (a := -(a + 1)) (b := b) (by omega) (by omega)
      have e : -(-(a + 1) / b) - 1 = a / b := by
        have h1 := Int.mul_ediv_add_emod (-(a + 1)) b
        have h2 := Int.emod_nonneg (-(a + 1)) (b := b) (by omega)
        have h3 := Int.emod_lt_of_pos (-(a + 1)) (b := b) (by omega)
        symm
        refine (Int.ediv_eq_iff_of_pos (by omega)).2 ?_
        have e2 : (-(-(a + 1) / b) - 1) * b = -(b * (-(a + 1) / b)) - b := by rw [Int.sub_mul, Int.neg_mul, Int.one_mul, Int.mul_comm]
        rw [e2]
        constructor
        · omega
        · omega
      rw [if_neg h, if_neg (by omega), wrap64_id (n := a + 1) (by omega) (by omega), wrap64_id (n := -(a + 1)) (by omega) (by omega), Int.tdiv_eq_ediv_of_nonneg (by omega), wrap64_id (n := -(a + 1) / b) hk.1 hk.2,
        wrap64_id (n := -(-(a + 1) / b)) (by omega) (by omega), wrap64_id (by omega) (by omega), e]
theorem natAbs_sq (a : Int) : ((a.natAbs : Nat) : Int) * ((a.natAbs : Nat) : Int) = a * a := Int.natAbs_mul_self' a
theorem rsquare_f {a : Int} (ha : InI a) (k : Nat) (hk : 10300 ≤ k) : hornbeamref15_square.f k a = some (wideD (a * a)) := by
  unfold InI at ha
  unfold hornbeamref15_square.f wideD
  rw [rsize_f ha.1 ha.2, Option.bind_some, Option.bind_some, rmul_f (by omega) (by omega) (by omega) (by omega) k hk, Option.bind_some, natAbs_sq]
def MayR (c s q : Int) : Prop := 0 ≤ c ∧ c ≤ 1048576 ∧ 0 ≤ q ∧ ((s.natAbs : Nat) : Int) ≤ 1048576 * c ∧ q ≤ 1099511627776 * c ∧ s * s ≤ c * q
instance (c s q : Int) : Decidable (MayR c s q) := by unfold MayR; exact inferInstance
theorem may_iff (c s q : Int) : MayR c s q ↔ MayP c s q := by
  unfold MayR MayP
  constructor
  · rintro ⟨h1, h2, h3, h4, h5, h6⟩
    by_cases h0 : c = 0
    · exact .inl ⟨h0, by omega, by omega⟩
    · exact .inr ⟨by omega, h2, h3, h5, by omega, by omega, h6⟩
  · rintro (⟨rfl, rfl, rfl⟩ | ⟨h1, h2, h3, h4, h5, h6, h7⟩)
    · decide
    · exact ⟨by omega, h2, h3, by omega, h4, h7⟩
theorem rmay_f (k : Nat) (hk : 10310 ≤ k) {c s q : Int} (hc : InI c) (hs : InI s) (hq : InI q) : hornbeamref15_May.f k c s q = some (decide (MayP c s q)) := by
  rw [← decide_eq_decide.2 (may_iff c s q)]
  obtain ⟨k, rfl⟩ : ∃ m, k = m + 5 := ⟨k - 5, by omega⟩
  have jt : ∀ m, hornbeamref15_May.j0 (m + 1) true c s q = some false := fun m => by rw [hornbeamref15_May.j0, if_pos rfl]
  have jt1 : ∀ m x, hornbeamref15_May.j1 (m + 1) x true c s q = some false := fun m x => by rw [hornbeamref15_May.j1, if_pos rfl]
  unfold InI at hc hq
  have hs' := hs
  unfold InI at hs'
  unfold hornbeamref15_May.f
  by_cases h1 : c < 0
  · rw [if_pos h1, jt, decide_eq_false (fun h => by have := h.1; omega)]
  rw [if_neg h1]
  by_cases h2 : c > 1048576
  · rw [if_pos h2, jt, decide_eq_false (fun h => by have := h.2.1; omega)]
  rw [if_neg h2]
  by_cases h3 : q < 0
  · rw [decide_eq_true h3, jt, decide_eq_false (fun h => by have := h.2.2.1; omega)]
  rw [decide_eq_false h3, hornbeamref15_May.j0, if_neg (by decide), rsize_f hs'.1 hs'.2, Option.bind_some, uwrap_id (n := c) (by omega) (by omega), uwrap_id (n := 1048576 * c) (by omega) (by omega), uwrap_id (n := q) (by omega) (by omega), uwrap_id (n := 1099511627776 * c) (by omega) (by omega)]
  by_cases h4 : ((s.natAbs : Nat) : Int) > 1048576 * c
  · rw [if_pos h4, jt1, decide_eq_false (fun h => by have := h.2.2.2.1; omega)]
  rw [if_neg h4]
  by_cases h5 : q > 1099511627776 * c
  · rw [decide_eq_true h5, jt1, decide_eq_false (fun h => by have := h.2.2.2.2.1; omega)]
  have hcq := Int.mul_nonneg (a := c) (b := q) (by omega) (by omega)
  have hcq2 : c * q ≤ 1048576 * 1152921504606846976 := Int.mul_le_mul (by omega) (by omega) (by omega) (by omega)
  have hss := sq_nonneg' s
  have hsb : s * s ≤ 1099511627776 * 1099511627776 := by
    rw [← natAbs_sq]
    exact Int.mul_le_mul (by omega) (by omega) (by omega) (by omega)
  rw [decide_eq_false h5, hornbeamref15_May.j1, if_neg (by decide), rsquare_f hs _ (by omega), Option.bind_some, uwrap_id (n := q) (by omega) (by omega), rmul_f (by omega) (by omega) (by omega) (by omega) _ (by omega), Option.bind_some]
  unfold wideD
  rw [rcmpw_f _ (by omega) (by omega) (by omega) (by omega) (by omega) (by omega) (by omega) (by omega) (by omega), Option.bind_some, show s * s / 18446744073709551616 * 18446744073709551616 + s * s % 18446744073709551616 = s * s by omega, show c * q / 18446744073709551616 * 18446744073709551616 + c * q % 18446744073709551616 = c * q by omega]
  congr 1
  rw [decide_eq_decide]
  unfold cmpI MayR
  constructor
  · intro h
    refine ⟨by omega, by omega, by omega, by omega, by omega, ?_⟩
    by_cases h7 : s * s < c * q
    · omega
    · rw [if_neg h7] at h
      by_cases h8 : c * q < s * s
      · rw [if_pos h8] at h; omega
      · omega
  · rintro ⟨_, _, _, _, _, h⟩
    split
    · omega
    · rw [if_neg (by omega)]; omega
theorem rmean_f (k : Nat) (hk : 10310 ≤ k) {c s q : Int} (hc : InI c) (hs : InI s) (hq : InI q) : hornbeamref15_Mean.f k c s q = some (if 0 < c ∧ MayP c s q then (s / c, true) else (0, false)) := by
  have hs' := hs
  unfold InI at hs'
  unfold hornbeamref15_Mean.f
  rw [rmay_f k hk hc hs hq, Option.bind_some]
  by_cases h : MayP c s q
  · have hb : 0 ≤ c := by rcases h with h | h <;> omega
    rw [decide_eq_true h, if_pos rfl]
    by_cases h0 : c = 0
    · rw [if_pos h0, if_neg (show ¬ (0 < c ∧ MayP c s q) from fun h2 => by omega)]
    · rw [if_neg h0, rfloor_f (show In s from hs'), if_neg (show ¬ c < 1 by omega), Option.bind_some, if_pos (show 0 < c ∧ MayP c s q from ⟨by omega, h⟩)]
  · rw [decide_eq_false h, if_neg (by decide), if_neg (show ¬ (0 < c ∧ MayP c s q) from fun h2 => h h2.2)]
theorem ralone_f (k : Nat) (hk : 10310 ≤ k) {c s q : Int} (hc : InI c) (hs : InI s) (hq : InI q) : hornbeamref15_Alone.f k c s q = some (if 0 < c ∧ MayP c s q then ((wideD (s * s)).1, (wideD (s * s)).2, c) else (0, 0, 0)) := by
  unfold hornbeamref15_Alone.f
  rw [rmay_f k hk hc hs hq, Option.bind_some]
  by_cases h : MayP c s q
  · have hb : 0 ≤ c ∧ c ≤ 1048576 := by rcases h with h | h <;> omega
    rw [decide_eq_true h, if_pos rfl]
    by_cases h0 : c = 0
    · rw [if_pos h0, if_neg (show ¬ (0 < c ∧ MayP c s q) from fun h2 => by omega)]
    · rw [if_neg h0, rsquare_f hs k (by omega), Option.bind_some, if_pos (show 0 < c ∧ MayP c s q from ⟨by omega, h⟩), uwrap_id (n := c) (by omega) (by omega)]
  · rw [decide_eq_false h, if_neg (by decide), if_neg (show ¬ (0 < c ∧ MayP c s q) from fun h2 => h h2.2)]
theorem rpure_f (k : Nat) (hk : 10310 ≤ k) {c s q : Int} (hc : InI c) (hs : InI s) (hq : InI q) : hornbeamref15_Pure.f k c s q = some (decide (MayP c s q ∧ s * s = c * q)) := by
  have hs' := hs
  unfold InI at hs'
  unfold hornbeamref15_Pure.f
  rw [rmay_f k hk hc hs hq, Option.bind_some]
  by_cases h : MayP c s q
  · have hb : 0 ≤ c ∧ 0 ≤ q := by rcases h with h | h <;> omega
    unfold InI at hc hq
    rw [decide_eq_true h, if_pos rfl, rsquare_f hs k (by omega), Option.bind_some, uwrap_id (n := c) (by omega) (by omega), uwrap_id (n := q) (by omega) (by omega), rmul_f (by omega) (by omega) (by omega) (by omega) _ (by omega), Option.bind_some]
    congr 1
    unfold wideD
    rw [Bool.eq_iff_iff, Bool.and_eq_true, beq_iff_eq, beq_iff_eq, decide_eq_true_eq]
    simp only []
    generalize s * s = x
    generalize c * q = y
    constructor
    · intro h1; exact ⟨h, by omega⟩
    · intro h1; have := h1.2; subst this; exact ⟨rfl, rfl⟩
  · rw [decide_eq_false h, if_neg (by decide), decide_eq_false (fun h1 => h h1.1)]
theorem rscore_f (k : Nat) (hk : 10330 ≤ k) {c s q c2 s2 q2 : Int} (hc : InI c) (hs : InI s) (hq : InI q) (hc2 : InI c2) (hs2 : InI s2) (hq2 : InI q2) :
    hornbeamref15_Score.f k c s q c2 s2 q2 = some (if (0 < c ∧ MayP c s q) ∧ (0 < c2 ∧ MayP c2 s2 q2) then ((wideD (s * s * c2 + s2 * s2 * c)).1, (wideD (s * s * c2 + s2 * s2 * c)).2, c * c2) else (0, 0, 0)) := by
  obtain ⟨k, rfl⟩ : ∃ m, k = m + 1 := ⟨k - 1, by omega⟩
  have jt : hornbeamref15_Score.j0 (k + 1) true c s q c2 s2 q2 = some (0, 0, 0) := by rw [hornbeamref15_Score.j0, if_pos rfl]
  unfold hornbeamref15_Score.f
  rw [rmay_f _ (by omega) hc hs hq, Option.bind_some]
  by_cases h : MayP c s q
  · have hb : 0 ≤ c ∧ c ≤ 1048576 := by rcases h with h | h <;> omega
    rw [decide_eq_true h, if_pos rfl, rmay_f _ (by omega) hc2 hs2 hq2, Option.bind_some]
    by_cases h2 : MayP c2 s2 q2
    · have hb2 : 0 ≤ c2 ∧ c2 ≤ 1048576 := by rcases h2 with h2 | h2 <;> omega
      rw [decide_eq_true h2, if_pos rfl]
      by_cases h0 : c = 0
      · rw [if_pos h0, jt, if_neg (show ¬ ((0 < c ∧ MayP c s q) ∧ (0 < c2 ∧ MayP c2 s2 q2)) from fun h3 => by have := h3.1.1; omega)]
      · rw [if_neg h0]
        by_cases h02 : c2 = 0
        · rw [show (c2 == 0) = true from beq_iff_eq.2 h02, jt, if_neg (show ¬ ((0 < c ∧ MayP c s q) ∧ (0 < c2 ∧ MayP c2 s2 q2)) from fun h3 => by have := h3.2.1; omega)]
        · have t1 : 0 < c ∧ MayP c s q := ⟨by omega, h⟩
          have t2 : 0 < c2 ∧ MayP c2 s2 q2 := ⟨by omega, h2⟩
          have b := there_bound t1; have b2 := there_bound t2
          have hx : 0 ≤ s * s * c2 ∧ s * s * c2 ≤ 1208925819614629174706176 * 1048576 := ⟨Int.mul_nonneg b.2.1 (by omega), Int.mul_le_mul b.2.2 b2.1 (by omega) (by omega)⟩
          have hx2 : 0 ≤ s2 * s2 * c ∧ s2 * s2 * c ≤ 1208925819614629174706176 * 1048576 := ⟨Int.mul_nonneg b2.2.1 (by omega), Int.mul_le_mul b2.2.2 b.1 (by omega) (by omega)⟩
          have hcc : 0 ≤ c * c2 ∧ c * c2 ≤ 1048576 * 1048576 := ⟨Int.mul_nonneg (by omega) (by omega), Int.mul_le_mul b.1 b2.1 (by omega) (by omega)⟩
          rw [show (c2 == 0) = false from beq_eq_false_iff_ne.2 h02, hornbeamref15_Score.j0, if_neg (by decide), if_pos (show (0 < c ∧ MayP c s q) ∧ (0 < c2 ∧ MayP c2 s2 q2) from ⟨t1, t2⟩), rsquare_f hs _ (by omega), Option.bind_some]
          unfold hornbeamref15_times.f
          unfold wideD
          rw [uwrap_id (n := c2) (by omega) (by omega), uwrap_id (n := c) (by omega) (by omega), rtimesw_f (h := s * s / 18446744073709551616) (l := s * s % 18446744073709551616) (n := c2) (by omega) (by omega) (by omega) (by omega) (by omega) (by omega) _ (by omega), Option.bind_some, Option.bind_some,
            rsquare_f hs2 _ (by omega), Option.bind_some]
          unfold wideD
          rw [rtimesw_f (h := s2 * s2 / 18446744073709551616) (l := s2 * s2 % 18446744073709551616) (n := c) (by omega) (by omega) (by omega) (by omega) (by omega) (by omega) _ (by omega), Option.bind_some, Option.bind_some]
          have e : s * s / 18446744073709551616 * 18446744073709551616 + s * s % 18446744073709551616 = s * s := by omega
          have e2 : s2 * s2 / 18446744073709551616 * 18446744073709551616 + s2 * s2 % 18446744073709551616 = s2 * s2 := by omega
          rw [e, e2]
          unfold longD
          simp only []
          generalize s * s * c2 = X at *
          generalize s2 * s2 * c = Y at *
          rw [Int.emod_eq_of_lt (a := X / 18446744073709551616) (by omega) (by omega), Int.emod_eq_of_lt (a := Y / 18446744073709551616) (by omega) (by omega),
            radd_f (a := X / 18446744073709551616) (b := X % 18446744073709551616) (c := Y / 18446744073709551616) (d := Y % 18446744073709551616) (by omega) (by omega) (by omega) (by omega) (by omega) (by omega) (by omega) (by omega) _ (by omega), Option.bind_some,
            show X / 18446744073709551616 * 18446744073709551616 + X % 18446744073709551616 + (Y / 18446744073709551616 * 18446744073709551616 + Y % 18446744073709551616) = X + Y by omega]
          unfold wideSum
          rw [if_pos (by omega), wrap64_id (n := c * c2) (by omega) (by omega), uwrap_id (n := c * c2) (by omega) (by omega)]
    · rw [decide_eq_false h2, if_neg (by decide), jt, if_neg (show ¬ ((0 < c ∧ MayP c s q) ∧ (0 < c2 ∧ MayP c2 s2 q2)) from fun h3 => h2 h3.2.2)]
  · rw [decide_eq_false h, if_neg (by decide), jt, if_neg (show ¬ ((0 < c ∧ MayP c s q) ∧ (0 < c2 ∧ MayP c2 s2 q2)) from fun h3 => h h3.1.2)]
theorem law_f (k : Nat) (hk : 10340 ≤ k) {c s q c2 s2 q2 : Int} (hc : InI c) (hs : InI s) (hq : InI q) (hc2 : InI c2) (hs2 : InI s2) (hq2 : InI q2) : hornbeamlaw15_SpreadScores.f k c s q c2 s2 q2 = some true := by
  unfold hornbeamlaw15_SpreadScores.f
  rw [mean_f k (by omega) hc hs hq, Option.bind_some, rmean_f k (by omega) hc hs hq, Option.bind_some, fixed_f k (by omega), Option.bind_some, if_pos rfl, may_f k (by omega) hc hs hq, Option.bind_some, rmay_f k (by omega) hc hs hq, Option.bind_some, if_pos (by simp),
    alone_f k (by omega) hc hs hq, Option.bind_some, ralone_f k (by omega) hc hs hq, Option.bind_some, if_pos (by simp), score_f k (by omega) hc hs hq hc2 hs2 hq2, Option.bind_some, rscore_f k (by omega) hc hs hq hc2 hs2 hq2, Option.bind_some, if_pos (by simp),
    if_pos rfl, if_pos (by simp), pure_f k (by omega) hc hs hq, Option.bind_some, rpure_f k (by omega) hc hs hq, Option.bind_some, beq_self_eq_true]
end SpreadScores0
open SpreadScores0
theorem SpreadScores : hornbeamlaw15_SpreadScores.Pure := by
  intro c s q c2 s2 q2 h1 h2 h3 h4 h5 h6
  exact ⟨10340, law_f 10340 (Nat.le_refl _) (wf_i64 h1) (wf_i64 h2) (wf_i64 h3) (wf_i64 h4) (wf_i64 h5) (wf_i64 h6)⟩

end Go.Proofs.Ytoonddgldmfleaa.Pure
