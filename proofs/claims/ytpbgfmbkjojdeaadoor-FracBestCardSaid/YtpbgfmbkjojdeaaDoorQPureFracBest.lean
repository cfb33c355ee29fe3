/- For every list of fractions the law FracBest answers true. No condition. -/
import Derived.Test.YtpbgfmbkjojdeaaDoorQFracBestx7
import Derived.Test.YtpbgfmbkjojdeaaDoorP64
import Derived.Test.YtpbgfmbkjojdeaaDoorDig
namespace Go.Proofs.YtpbgfmbkjojdeaaDoor.Pure
open Go.RowKit Go.Proofs.YtpbgfmbkjojdeaaDoor.QFracBest Go.Proofs.YtpbgfmbkjojdeaaDoorW.PrintWords Go.Proofs.YtpbgfmbkjojdeaaDoorW.PrintLast
open Go.Proofs.YtpbgfmbkjojdeaaDoor.P64 Go.Proofs.YtpbgfmbkjojdeaaDoor.Dig
set_option linter.unusedVariables false
set_option linter.unusedSimpArgs false
namespace FracBest0
theorem add64_f {a b c : Int} (a0 : 0 ≤ a) (b0 : 0 ≤ b) (c0 : 0 ≤ c) (c1 : c ≤ 1) : bits_Add64.f a b c = some ((a + b + c) % 18446744073709551616, (a + b + c) / 18446744073709551616) := by
  unfold bits_Add64.f
  rw [if_pos ⟨a0, b0, c0, c1⟩]
theorem times_f {h l n : Int} (h0 : 0 ≤ h) (h1 : h < 18446744073709551616) (l0 : 0 ≤ l) (l1 : l < 18446744073709551616) (n0 : 0 ≤ n) (n1 : n < 18446744073709551616) :
    prod_Times.f h l n = some (longD ((h * 18446744073709551616 + l) * n)) := by
  unfold prod_Times.f
  rw [show bits_Mul64.f l n = some (mul64 l n) from rfl, show bits_Mul64.f h n = some (mul64 h n) from rfl, Option.bind_some, Option.bind_some, mul64_eq l0 l1 n0 n1, mul64_eq h0 h1 n0 n1]
  have p1 := mul_bound64 l0 l1 n0 n1
  have p2 := mul_bound64 h0 h1 n0 n1
  have e : (h * 18446744073709551616 + l) * n = (h * n) * 18446744073709551616 + l * n := by rw [Int.add_mul, Int.mul_right_comm]
  rw [e]
  unfold longD
  generalize h * n = q at *
  generalize l * n = p at *
  rw [add64_f (by omega) (by omega) (by omega) (by omega), Option.bind_some, uwrap_id (by omega) (by omega)]
  simp only [Option.some.injEq, Prod.mk.injEq]
  omega
theorem compare_f (a b : Int) : cmp_Compare_uint64.f a b = some (cmpI a b) := by
  unfold cmp_Compare_uint64.f cmp_isNaN_uint64.f cmpI
  rw [Option.bind_some, Option.bind_some, if_neg (by simp), if_neg (by simp)]
  split
  · rfl
  · split <;> rfl
theorem cmplong_f {X Y : Int} (_x0 : 0 ≤ X) (_y0 : 0 ≤ Y) : prod_CmpLong.f (longD X).1 (longD X).2.1 (longD X).2.2 (longD Y).1 (longD Y).2.1 (longD Y).2.2 = some (cmpI X Y) := by
  unfold prod_CmpLong.f longD
  simp only [compare_f]
  unfold cmpI
  have hx := Int.mul_ediv_add_emod X 18446744073709551616
  have hy := Int.mul_ediv_add_emod Y 18446744073709551616
  have hx2 := Int.mul_ediv_add_emod (X / 18446744073709551616) 18446744073709551616
  have hy2 := Int.mul_ediv_add_emod (Y / 18446744073709551616) 18446744073709551616
  have b1 := Int.emod_nonneg X (b := 18446744073709551616) (by decide)
  have b2 := Int.emod_lt_of_pos X (b := 18446744073709551616) (by decide)
  have b3 := Int.emod_nonneg Y (b := 18446744073709551616) (by decide)
  have b4 := Int.emod_lt_of_pos Y (b := 18446744073709551616) (by decide)
  have b5 := Int.emod_nonneg (X / 18446744073709551616) (b := 18446744073709551616) (by decide)
  have b6 := Int.emod_lt_of_pos (X / 18446744073709551616) (b := 18446744073709551616) (by decide)
  have b7 := Int.emod_nonneg (Y / 18446744073709551616) (b := 18446744073709551616) (by decide)
  have b8 := Int.emod_lt_of_pos (Y / 18446744073709551616) (b := 18446744073709551616) (by decide)
  generalize X % 18446744073709551616 = u0 at *
  generalize Y % 18446744073709551616 = v0 at *
  generalize X / 18446744073709551616 % 18446744073709551616 = u1 at *
  generalize Y / 18446744073709551616 % 18446744073709551616 = v1 at *
  generalize X / 18446744073709551616 / 18446744073709551616 = u2 at *
  generalize Y / 18446744073709551616 / 18446744073709551616 = v2 at *
  generalize X / 18446744073709551616 = p at *
  generalize Y / 18446744073709551616 = q at *
  by_cases h2 : u2 = v2
  · rw [if_pos h2]
    by_cases h1 : u1 = v1
    · rw [if_pos h1]
      by_cases h0 : u0 = v0
      · rw [if_pos h0, if_neg (by omega), if_neg (by omega)]
      · rw [if_neg h0]
        rcases Int.lt_or_gt_of_ne h0 with h | h
        · rw [if_pos h, if_pos (by omega)]
        · rw [if_neg (by omega), if_pos h, if_neg (by omega), if_pos (by omega)]
    · rw [if_neg h1]
      rcases Int.lt_or_gt_of_ne h1 with h | h
      · rw [if_pos h, if_pos (by omega)]
      · rw [if_neg (by omega), if_pos h, if_neg (by omega), if_pos (by omega)]
  · rw [if_neg h2]
    rcases Int.lt_or_gt_of_ne h2 with h | h
    · rw [if_pos h, if_pos (by omega)]
    · rw [if_neg (by omega), if_pos h, if_neg (by omega), if_pos (by omega)]
/-- How two fractions stand to one another: their upper numbers n, m, their lower ones d, e. -/
def FC (n d m e : Int) : Int := if d = 0 then (if e = 0 then 0 else -1) else if e = 0 then 1 else cmpI (n * e) (m * d)
theorem cmpI_cases (x y : Int) : (cmpI x y = -1 ∧ x < y) ∨ (cmpI x y = 0 ∧ x = y) ∨ (cmpI x y = 1 ∧ y < x) := by
  unfold cmpI
  by_cases h : x < y
  · rw [if_pos h]; exact .inl ⟨rfl, h⟩
  · rw [if_neg h]
    by_cases h2 : y < x
    · rw [if_pos h2]; exact .inr (.inr ⟨rfl, h2⟩)
    · rw [if_neg h2]; exact .inr (.inl ⟨rfl, by omega⟩)
theorem cmpI_anti (x y : Int) : cmpI y x = -cmpI x y := by
  rcases cmpI_cases x y with ⟨h, g⟩ | ⟨h, g⟩ | ⟨h, g⟩ <;> rcases cmpI_cases y x with ⟨h2, g2⟩ | ⟨h2, g2⟩ | ⟨h2, g2⟩ <;> omega
theorem FC_cases (n d m e : Int) : FC n d m e = -1 ∨ FC n d m e = 0 ∨ FC n d m e = 1 := by
  unfold FC
  split
  · split
    · exact .inr (.inl rfl)
    · exact .inl rfl
  · split
    · exact .inr (.inr rfl)
    · rcases cmpI_cases (n * e) (m * d) with h | h | h
      · exact .inl h.1
      · exact .inr (.inl h.1)
      · exact .inr (.inr h.1)
theorem FC_anti (n d m e : Int) : FC m e n d = -FC n d m e := by
  unfold FC
  by_cases hd : d = 0
  · by_cases he : e = 0
    · rw [if_pos hd, if_pos he, if_pos he, if_pos hd]; rfl
    · rw [if_neg he, if_pos hd, if_pos hd, if_neg he]; rfl
  · by_cases he : e = 0
    · rw [if_pos he, if_neg hd, if_neg hd, if_pos he]
    · rw [if_neg he, if_neg hd, if_neg hd, if_neg he, cmpI_anti]
theorem FC_refl (n d : Int) : FC n d n d = 0 := by
  have := FC_anti n d n d
  omega
theorem FC_le (n d m e : Int) (d0 : 0 ≤ d) (e0 : 0 ≤ e) : FC n d m e ≤ 0 ↔ (d = 0 ∨ (e ≠ 0 ∧ n * e ≤ m * d)) := by
  unfold FC
  by_cases hd : d = 0
  · rw [if_pos hd]
    exact ⟨fun _ => .inl hd, fun _ => by split <;> omega⟩
  · rw [if_neg hd]
    by_cases he : e = 0
    · rw [if_pos he]
      exact ⟨fun h => absurd h (by omega), fun h => by rcases h with h | h <;> omega⟩
    · rw [if_neg he]
      rcases cmpI_cases (n * e) (m * d) with ⟨h, g⟩ | ⟨h, g⟩ | ⟨h, g⟩ <;> rw [h]
      · exact ⟨fun _ => .inr ⟨he, by omega⟩, fun _ => by omega⟩
      · exact ⟨fun _ => .inr ⟨he, by omega⟩, fun _ => by omega⟩
      · exact ⟨fun h => absurd h (by omega), fun h => by rcases h with h | h <;> omega⟩
theorem FC_chain (n d m e p f : Int) (d0 : 0 ≤ d) (e0 : 0 ≤ e) (f0 : 0 ≤ f) (h1 : FC n d m e ≤ 0) (h2 : FC m e p f ≤ 0) : FC n d p f ≤ 0 := by
  rw [FC_le _ _ _ _ d0 e0] at h1
  rw [FC_le _ _ _ _ e0 f0] at h2
  rw [FC_le _ _ _ _ d0 f0]
  rcases h1 with h1 | ⟨h1, g1⟩
  · exact .inl h1
  · rcases h2 with h2 | ⟨h2, g2⟩
    · exact absurd h2 h1
    · refine .inr ⟨h2, ?_⟩
      have a1 : n * e * f ≤ m * d * f := Int.mul_le_mul_of_nonneg_right g1 f0
      have a2 : m * f * d ≤ p * e * d := Int.mul_le_mul_of_nonneg_right g2 d0
      have a3 : m * d * f = m * f * d := by rw [Int.mul_assoc, Int.mul_comm d f, ← Int.mul_assoc]
      have a4 : n * e * f = e * (n * f) := by rw [Int.mul_comm n e, Int.mul_assoc]
      have a5 : p * e * d = e * (p * d) := by rw [Int.mul_comm p e, Int.mul_assoc]
      exact Int.le_of_mul_le_mul_left (a := e) (by rw [← a4, ← a5]; omega) (by omega)
theorem FC_chain2 (n d m e p f : Int) (d0 : 0 ≤ d) (e0 : 0 ≤ e) (f0 : 0 ≤ f) (h1 : 0 ≤ FC n d m e) (h2 : 0 ≤ FC m e p f) : 0 ≤ FC n d p f := by
  have a := FC_anti n d m e; have b := FC_anti m e p f; have c := FC_anti n d p f
  have := FC_chain p f m e n d f0 e0 d0 (by omega) (by omega)
  omega
theorem compareI_f (a b : Int) : cmp_Compare_int.f a b = some (cmpI a b) := by
  unfold cmp_Compare_int.f cmp_isNaN_int.f cmpI
  rw [Option.bind_some, Option.bind_some, if_neg (by simp), if_neg (by simp)]
  split
  · rfl
  · split <;> rfl
theorem right_f (h l d : Int) : frac_Right.f h l d = some (d != 0) := rfl
theorem rank_f (b : Bool) : frac_rank.f b = some (if b = true then 1 else 0) := by unfold frac_rank.f; split <;> rfl
theorem fcmp_j (k : Nat) {h l d h2 l2 d2 : Int} (h0 : 0 ≤ h) (h1 : h < 18446744073709551616) (l0 : 0 ≤ l) (l1 : l < 18446744073709551616) (e0 : 0 ≤ d) (e1 : d < 18446744073709551616)
    (g0 : 0 ≤ h2) (g1 : h2 < 18446744073709551616) (m0 : 0 ≤ l2) (m1 : l2 < 18446744073709551616) (f0 : 0 ≤ d2) (f1 : d2 < 18446744073709551616) (hd : d ≠ 0) (he : d2 ≠ 0) :
    frac_Cmp.j0 (k + 1) false h l d h2 l2 d2 = some (FC (h * 18446744073709551616 + l) d (h2 * 18446744073709551616 + l2) d2) := by
  rw [frac_Cmp.j0, if_neg (by decide), times_f h0 h1 l0 l1 f0 f1, Option.bind_some, times_f g0 g1 m0 m1 e0 e1, Option.bind_some, cmplong_f (Int.mul_nonneg (by omega) f0) (Int.mul_nonneg (by omega) e0), Option.bind_some]
  unfold FC
  rw [if_neg hd, if_neg he]
theorem fcmp_f (k : Nat) (hk : 1 ≤ k) {h l d h2 l2 d2 : Int} (h0 : 0 ≤ h) (h1 : h < 18446744073709551616) (l0 : 0 ≤ l) (l1 : l < 18446744073709551616) (e0 : 0 ≤ d) (e1 : d < 18446744073709551616)
    (g0 : 0 ≤ h2) (g1 : h2 < 18446744073709551616) (m0 : 0 ≤ l2) (m1 : l2 < 18446744073709551616) (f0 : 0 ≤ d2) (f1 : d2 < 18446744073709551616) :
    frac_Cmp.f k h l d h2 l2 d2 = some (FC (h * 18446744073709551616 + l) d (h2 * 18446744073709551616 + l2) d2) := by
  obtain ⟨k, rfl⟩ : ∃ q, k = q + 1 := ⟨k - 1, by omega⟩
  unfold frac_Cmp.f
  rw [right_f, Option.bind_some]
  by_cases hd : d = 0
  · rw [hd, if_neg (by decide), frac_Cmp.j0, if_pos rfl, right_f, Option.bind_some, rank_f, Option.bind_some, right_f, Option.bind_some, rank_f, Option.bind_some, compareI_f, Option.bind_some]
    unfold FC
    rw [if_pos rfl]
    by_cases he : d2 = 0
    · rw [if_pos he, he]; rfl
    · rw [if_neg he, show (d2 != 0) = true from bne_iff_ne.2 he]; rfl
  · rw [show (d != 0) = true from bne_iff_ne.2 hd, if_pos rfl, right_f, Option.bind_some]
    by_cases he : d2 = 0
    · rw [he, show (!((0 : Int) != 0)) = true from rfl, frac_Cmp.j0, if_pos rfl, right_f, Option.bind_some, rank_f, Option.bind_some, right_f, Option.bind_some, rank_f, Option.bind_some, compareI_f, Option.bind_some]
      unfold FC
      rw [if_neg hd, if_pos rfl, show (d != 0) = true from bne_iff_ne.2 hd]; rfl
    · rw [show (!(d2 != 0)) = false by rw [show (d2 != 0) = true from bne_iff_ne.2 he]; rfl]
      exact fcmp_j k h0 h1 l0 l1 e0 e1 g0 g1 m0 m1 f0 f1 hd he
theorem dec_one {u : Nat} (h : u < 10) : Lib.decDigits u = [UInt8.ofNat (48 + u)] := by
  rw [Lib.decDigits, dif_pos h]
theorem dec_more {u : Nat} (h : ¬ u < 10) : Lib.decDigits u = Lib.decDigits (u / 10) ++ [UInt8.ofNat (48 + u % 10)] := by
  rw [Lib.decDigits, dif_neg h]
theorem dec_len (d : Nat) : ∀ u : Nat, u < 10 ^ (d + 1) → (Lib.decDigits u).length ≤ d + 1 := by
  induction d with
  | zero => intro u h; rw [dec_one (by simpa using h)]; simp
  | succ d ih =>
    intro u h
    by_cases h1 : u < 10
    · rw [dec_one h1]; simp
    · rw [dec_more h1, List.length_append, List.length_singleton]
      have := ih (u / 10) (by rw [Nat.pow_succ] at h; omega)
      omega
theorem itoa_len {n : Int} (h0 : -9223372036854775808 ≤ n) (h1 : n ≤ 9223372036854775807) : (Lib.itoa n).length ≤ 30 := by
  unfold Lib.itoa
  split
  · have := dec_len 19 n.natAbs (by omega)
    rw [List.length_cons]; omega
  · have := dec_len 19 n.toNat (by omega)
    omega
theorem fmt_f {n : Int} (h0 : -9223372036854775808 ≤ n) (h1 : n ≤ 9223372036854775807) : strconv_FormatInt_23.f n 10 = some ⟨(Lib.itoa n).toArray⟩ := by
  unfold strconv_FormatInt_23.f
  rw [if_pos ⟨rfl, h0, h1⟩]
theorem text_f {n d : Int} (h0 : -9223372036854775808 ≤ n) (h1 : n ≤ 9223372036854775807) (e1 : d ≤ 9223372036854775807) :
    frac_Text.f n d = some (if d < 1 then ⟨#[110, 111, 110, 101]⟩ else (⟨(Lib.itoa n).toArray⟩ ++ ⟨#[47]⟩) ++ ⟨(Lib.itoa d).toArray⟩) := by
  unfold frac_Text.f
  by_cases hd : d < 1
  · rw [if_pos hd, if_pos hd]
  · have a := itoa_len h0 h1
    have b := itoa_len (n := d) (by omega) e1
    have z1 : (⟨(Lib.itoa n).toArray⟩ : ByteArray).size = (Lib.itoa n).length := rfl
    have z2 : (⟨(Lib.itoa d).toArray⟩ : ByteArray).size = (Lib.itoa d).length := rfl
    rw [if_neg hd, if_neg hd, fmt_f h0 h1, Option.bind_some, if_pos (by omega), fmt_f (by omega) e1, Option.bind_some, if_pos (by rw [ByteArray.size_append, z1, z2]; show (Lib.itoa n).length + 1 + _ ≤ _; omega)]
theorem of_f (n d : Int) : frac_Of.f n d = some (0, n, d) := rfl
theorem fixed_f (k : Nat) (hk : 1 ≤ k) : hornbeamlaw05_fixed.f k = some true := by
  have i1 : Lib.itoa (-1) = [45, 49] := by
    unfold Lib.itoa
    rw [if_pos (by decide), show (-1 : Int).natAbs = 1 from rfl, dec_one (by decide)]; rfl
  have i4 : Lib.itoa 4 = [52] := by
    unfold Lib.itoa
    rw [if_neg (by decide), show (4 : Int).toNat = 4 from rfl, dec_one (by decide)]; rfl
  unfold hornbeamlaw05_fixed.f
  rw [of_f, Option.bind_some]
  dsimp only
  rw [fcmp_f k hk (by omega) (by omega) (by omega) (by omega) (by omega) (by omega) (by omega) (by omega) (by omega) (by omega) (by omega) (by omega), Option.bind_some, if_pos (by decide), Option.bind_some, of_f, Option.bind_some]
  dsimp only
  rw [fcmp_f k hk (by omega) (by omega) (by omega) (by omega) (by omega) (by omega) (by omega) (by omega) (by omega) (by omega) (by omega) (by omega), Option.bind_some, if_pos (by decide), text_f (by omega) (by omega) (by omega), Option.bind_some, i1, i4, if_neg (by decide)]
  decide +kernel
theorem digits_f {n : Int} (h0 : 0 ≤ n) (h1 : n < 18446744073709551616) : hornbeamref04_Digits.f n = some (dig4 n) := by
  unfold hornbeamref04_Digits.f dig4
  rw [Int.tmod_eq_emod_of_nonneg h0, Int.tdiv_eq_ediv_of_nonneg h0, Int.tdiv_eq_ediv_of_nonneg h0, Int.tdiv_eq_ediv_of_nonneg h0, uwrap_id (by omega) (by omega), uwrap_id (by omega) (by omega), uwrap_id (by omega) (by omega),
    Int.tmod_eq_emod_of_nonneg (by omega), Int.tmod_eq_emod_of_nonneg (by omega)]
theorem ofwide_f {h l : Int} (h0 : 0 ≤ h) (h1 : h < 18446744073709551616) (l0 : 0 ≤ l) (l1 : l < 18446744073709551616) : ∃ r, hornbeamref04_OfWide.f h l = some r ∧ r.length = 8 ∧ Dg r ∧ V r = h * 18446744073709551616 + l := by
  refine ⟨dig4 l ++ dig4 h, ?_, rfl, (dig4_Dg l0 l1).append (dig4_Dg h0 h1), ?_⟩
  · unfold hornbeamref04_OfWide.f
    rw [digits_f l0 l1, Option.bind_some, digits_f h0 h1, Option.bind_some, if_pos (by rw [dig4_len, dig4_len]; omega)]
  · rw [V_append, dig4_V, dig4_V, dig4_len, show (65536 : Int) ^ 4 = 18446744073709551616 from rfl]; omega
theorem rd_nat (l : List Int) (i : Nat) : rd l (i : Int) = l.getD i 0 := rfl
theorem product_l1 (a b : List Int) (ha : Dg a) (hb : Dg b) (la : a.length ≤ 100) (lb : b.length ≤ 100) (i : Nat) (hi : i < a.length) (d : Nat) :
    ∀ (j : Nat) (o : List Int) (c : Int), j + d = b.length → o.length = a.length + b.length → Dg o → 0 ≤ c → c < 65536 → (∀ m, i + b.length ≤ m → o.getD m 0 = 0) →
    ∃ r, (∀ k, hornbeamref04_Product.l1 (k + (d + 1)) a b o (i : Int) c (j : Int) = hornbeamref04_Product.l0 k a b r ((i + 1 : Nat) : Int)) ∧ r.length = a.length + b.length ∧ Dg r ∧
      V r = V o + (a.getD i 0 * V (b.drop j)) * 65536 ^ (i + j) + c * 65536 ^ (i + j) ∧ (∀ m, i + 1 + b.length ≤ m → r.getD m 0 = 0) := by
  induction d with
  | zero =>
    intro j o c hj ho hd c0 c1 hz
    have hjb : j = b.length := by omega
    subst hjb
    refine ⟨o.set (i + b.length) c, ?_, by rw [List.length_set]; exact ho, hd.set _ c0 c1, ?_, ?_⟩
    · intro k
      rw [hornbeamref04_Product.l1, if_neg (by omega), show wrap64 ((i : Int) + (b.length : Int)) = ((i + b.length : Nat) : Int) by unfold wrap64; omega, if_pos (by omega), if_pos (by omega),
        show wrap64 ((i : Int) + 1) = ((i + 1 : Nat) : Int) by unfold wrap64; omega]
      rfl
    · rw [V_set _ _ (by omega), hz _ (Nat.le_refl _), List.drop_length, V, Int.mul_zero, Int.zero_mul, Int.add_zero, Int.sub_zero]
    · intro m hm
      rw [digs_set_ne _ (by omega)]
      exact hz m (by omega)
  | succ d ih =>
    intro j o c hj ho hd c0 c1 hz
    have hA := ha.getD i; have hB := hb.getD j; have hO := hd.getD (i + j)
    have hP := mul_bound16 hA.1 hA.2 hB.1 hB.2
    obtain ⟨n, hn⟩ : ∃ n, n = o.getD (i + j) 0 + a.getD i 0 * b.getD j 0 + c := ⟨_, rfl⟩
    have n0 : 0 ≤ n := by omega
    have n1 : n < 4294967296 := by omega
    obtain ⟨r, hr, r1, r2, r3, r4⟩ := ih (j + 1) (o.set (i + j) (n % 65536)) (n / 65536) (by omega) (by rw [List.length_set]; exact ho) (hd.set _ (by omega) (by omega)) (by omega) (by omega) (by
      intro m hm
      rw [digs_set_ne _ (by omega)]
      exact hz m hm)
    refine ⟨r, ?_, r1, r2, ?_, r4⟩
    · intro k
      rw [show k + (d + 1 + 1) = k + (d + 1) + 1 by omega, hornbeamref04_Product.l1, if_pos (by omega), show wrap64 ((i : Int) + (j : Int)) = ((i + j : Nat) : Int) by unfold wrap64; omega, if_pos (by omega), if_pos (by omega), if_pos (by omega), if_pos (by omega), if_pos (by omega)]
      rw [rd_nat, rd_nat, rd_nat, uwrap_id (n := a.getD i 0 * b.getD j 0) (by omega) (by omega), uwrap_id (n := o.getD (i + j) 0 + a.getD i 0 * b.getD j 0) (by omega) (by omega), ← hn, uwrap_id (n := n) (by omega) (by omega),
        Int.tmod_eq_emod_of_nonneg n0, Int.tdiv_eq_ediv_of_nonneg n0, uwrap_id (by omega) (by omega), show wrap64 ((j : Int) + 1) = ((j + 1 : Nat) : Int) by unfold wrap64; omega]
      exact hr k
    · rw [r3, V_set _ _ (by omega), V_drop j (by omega), show i + (j + 1) = i + j + 1 by omega, Int.pow_succ]
      generalize (65536 : Int) ^ (i + j) = P at *
      generalize V (b.drop (j + 1)) = W at *
      have e1 : a.getD i 0 * (b.getD j 0 + 65536 * W) * P = a.getD i 0 * b.getD j 0 * P + a.getD i 0 * W * (P * 65536) := by
        rw [Int.mul_add, Int.add_mul, Int.mul_left_comm (a.getD i 0) 65536 W, Int.mul_comm 65536 (a.getD i 0 * W), Int.mul_assoc (a.getD i 0 * W), Int.mul_comm 65536 P]
      rw [e1]
      have e2 : a.getD i 0 * b.getD j 0 * P + c * P = (n - o.getD (i + j) 0) * P := by rw [← Int.add_mul]; congr 1; omega
      have e3 : (n % 65536 - o.getD (i + j) 0) * P + n / 65536 * (P * 65536) = (n - o.getD (i + j) 0) * P := by
        rw [Int.mul_comm P 65536, ← Int.mul_assoc, ← Int.add_mul]; congr 1; omega
      omega
theorem product_l0 (a b : List Int) (ha : Dg a) (hb : Dg b) (la : a.length ≤ 100) (lb : b.length ≤ 100) (d : Nat) :
    ∀ (i : Nat) (o : List Int), i + d = a.length → o.length = a.length + b.length → Dg o → (∀ m, i + b.length ≤ m → o.getD m 0 = 0) →
    ∃ r, (∀ k, hornbeamref04_Product.l0 (k + (d * (b.length + 2) + 1)) a b o (i : Int) = some r) ∧ r.length = a.length + b.length ∧ Dg r ∧ V r = V o + V (a.drop i) * V b * 65536 ^ i := by
  induction d with
  | zero =>
    intro i o hi ho hd hz
    refine ⟨o, ?_, ho, hd, ?_⟩
    · intro k
      rw [Nat.zero_mul, Nat.zero_add, hornbeamref04_Product.l0, if_neg (by omega)]
    · rw [List.drop_eq_nil_of_le (by omega), V, Int.zero_mul, Int.zero_mul, Int.add_zero]
  | succ d ih =>
    intro i o hi ho hd hz
    obtain ⟨o1, h1, h2, h3, h4, h5⟩ := product_l1 a b ha hb la lb i (by omega) b.length 0 o 0 (by omega) ho hd (by omega) (by omega) hz
    obtain ⟨r, g1, g2, g3, g4⟩ := ih (i + 1) o1 (by omega) h2 h3 h5
    refine ⟨r, ?_, g2, g3, ?_⟩
    · intro k
      rw [show k + ((d + 1) * (b.length + 2) + 1) = k + (d * (b.length + 2) + 1) + (b.length + 1) + 1 by rw [Nat.add_mul]; omega, hornbeamref04_Product.l0, if_pos (by omega)]
      exact (h1 _).trans (g1 k)
    · rw [g4, h4, V_drop i (by omega), List.drop_zero, Nat.add_zero, Int.zero_mul, Int.add_zero, Int.pow_succ]
      generalize (65536 : Int) ^ i = P at *
      generalize V (a.drop (i + 1)) = W at *
      generalize V b = Y at *
      rw [Int.add_mul, Int.add_mul, Int.mul_comm P 65536, ← Int.mul_assoc (W * Y), Int.mul_comm (W * Y) 65536, ← Int.mul_assoc 65536 W Y]
      omega
theorem product_f (a b : List Int) (ha : Dg a) (hb : Dg b) (la : a.length ≤ 100) (lb : b.length ≤ 100) :
    ∃ r, (∀ k, 10300 ≤ k → hornbeamref04_Product.f k a b = some r) ∧ r.length = a.length + b.length ∧ Dg r ∧ V r = V a * V b := by
  have e : wrap64 ((a.length : Int) + (b.length : Int)) = ((a.length + b.length : Nat) : Int) := by unfold wrap64; omega
  obtain ⟨r, h1, h2, h3, h4⟩ := product_l0 a b ha hb la lb a.length 0 (List.replicate (a.length + b.length) 0) (by omega) (List.length_replicate) (Dg.replicate _) (by
    intro m _
    by_cases h : m < a.length + b.length <;> simp [List.getD, h])
  refine ⟨r, ?_, h2, h3, ?_⟩
  · intro k hk
    have hm : a.length * (b.length + 2) ≤ 100 * 102 := Nat.mul_le_mul la (by omega)
    unfold hornbeamref04_Product.f
    rw [e, if_pos (by omega), Int.toNat_natCast, if_pos (by omega)]
    have := h1 (k - (a.length * (b.length + 2) + 1))
    rw [show k - (a.length * (b.length + 2) + 1) + (a.length * (b.length + 2) + 1) = k by omega] at this
    exact this
  · rw [h4, V_replicate, List.drop_zero, Int.pow_zero, Int.mul_one, Int.zero_add]
theorem rcompare_l (a b : List Int) (ha : Dg a) (hb : Dg b) (hl : a.length = b.length) (h100 : a.length ≤ 100) (m : Nat) : ∀ (k : Nat), m ≤ a.length → m < k →
    hornbeamref04_Compare.l0 k a b ((m : Int) - 1) = some (cmpI (V (a.take m)) (V (b.take m))) := by
  induction m with
  | zero =>
    intro k _ hk
    obtain ⟨k, rfl⟩ : ∃ q, k = q + 1 := ⟨k - 1, by omega⟩
    rw [hornbeamref04_Compare.l0, if_neg (by omega)]
    rfl
  | succ m ih =>
    intro k hm hk
    obtain ⟨k, rfl⟩ : ∃ q, k = q + 1 := ⟨k - 1, by omega⟩
    have tk : ∀ (l : List Int), m < l.length → V (l.take (m + 1)) = V (l.take m) + 65536 ^ m * l.getD m 0 := by
      intro l h
      rw [List.take_succ_eq_append_getElem h, V_append, List.length_take, Nat.min_eq_left (by omega)]
      simp [V, List.getD, h]
    have u1 := V_lt (ha.take m); have u2 := V_nonneg (ha.take m)
    have v1 := V_lt (hb.take m); have v2 := V_nonneg (hb.take m)
    rw [List.length_take, Nat.min_eq_left (by omega)] at u1 v1
    rw [hornbeamref04_Compare.l0, show (((m + 1 : Nat) : Int) - 1) = (m : Int) by omega, if_pos (by omega), if_pos (by omega), if_pos (by omega), if_pos (by omega), rd_nat, rd_nat, show wrap64 ((m : Int) - 1) = (m : Int) - 1 by unfold wrap64; omega,
      ih k (by omega) (by omega), tk a (by omega), tk b (by omega)]
    generalize (65536 : Int) ^ m = P at *
    generalize V (a.take m) = x at *
    generalize V (b.take m) = y at *
    generalize a.getD m 0 = p at *
    generalize b.getD m 0 = q at *
    have key : ∀ s t : Int, s < t → P * s + P ≤ P * t := by
      intro s t h
      have := Int.mul_le_mul_of_nonneg_left (a := s + 1) (b := t) (c := P) (by omega) (by omega)
      rw [Int.mul_add, Int.mul_one] at this
      exact this
    unfold cmpI
    by_cases h1 : p < q
    · have := key p q h1
      rw [if_pos h1, if_pos (by omega)]
    · rw [if_neg h1]
      by_cases h2 : p > q
      · have := key q p h2
        rw [if_pos h2, if_neg (by omega), if_pos (by omega)]
      · have e : p = q := by omega
        subst e
        rw [if_neg h2]
        congr 1
        by_cases h3 : x < y
        · rw [if_pos h3, if_pos (by omega)]
        · rw [if_neg h3, if_neg (show ¬ (x + P * p < y + P * p) by omega)]
          by_cases h4 : y < x
          · rw [if_pos h4, if_pos (by omega)]
          · rw [if_neg h4, if_neg (by omega)]
theorem rcompare_f (a b : List Int) (ha : Dg a) (hb : Dg b) (hl : a.length = b.length) (h100 : a.length ≤ 100) (k : Nat) (hk : 101 ≤ k) :
    hornbeamref04_Compare.f k a b = some (cmpI (V a) (V b)) := by
  have := rcompare_l a b ha hb hl h100 a.length k (Nat.le_refl _) (by omega)
  rw [List.take_length, hl, List.take_length] at this
  unfold hornbeamref04_Compare.f
  rw [show wrap64 ((a.length : Int) - 1) = (a.length : Int) - 1 by unfold wrap64; omega, hl]
  exact this
/-- How two fractions stand to one another, their upper numbers whole. -/
def fracCmp (x : Int) (d : Int) (y : Int) (e : Int) : Int := cmpI (x * e) (y * d)
theorem refcmp_f {h l d h2 l2 d2 : Int} (h0 : 0 ≤ h) (h1 : h < 18446744073709551616) (l0 : 0 ≤ l) (l1 : l < 18446744073709551616) (d0 : 0 < d) (d1 : d < 18446744073709551616)
    (g0 : 0 ≤ h2) (g1 : h2 < 18446744073709551616) (m0 : 0 ≤ l2) (m1 : l2 < 18446744073709551616) (e0 : 0 < d2) (e1 : d2 < 18446744073709551616) (k : Nat) (hk : 10310 ≤ k) :
    hornbeamref05_Cmp.f k h l d h2 l2 d2 = some (fracCmp (h * 18446744073709551616 + l) d (h2 * 18446744073709551616 + l2) d2) := by
  obtain ⟨k, rfl⟩ : ∃ q, k = q + 3 := ⟨k - 3, by omega⟩
  obtain ⟨a, a1, a2, a3, a4⟩ := ofwide_f h0 h1 l0 l1
  obtain ⟨b, b1, b2, b3, b4⟩ := ofwide_f g0 g1 m0 m1
  obtain ⟨r, r1, r2, r3, r4⟩ := product_f a (dig4 d2) a3 (dig4_Dg (by omega) e1) (by omega) (by rw [dig4_len]; omega)
  obtain ⟨s, s1, s2, s3, s4⟩ := product_f b (dig4 d) b3 (dig4_Dg (by omega) d1) (by omega) (by rw [dig4_len]; omega)
  rw [dig4_V] at r4 s4
  rw [dig4_len] at r2 s2
  unfold hornbeamref05_Cmp.f
  rw [if_neg (by omega), hornbeamref05_Cmp.j0, if_neg (by decide), if_neg (by omega), if_neg (by omega), a1, Option.bind_some, digits_f (by omega) e1, Option.bind_some, r1 _ (by omega), Option.bind_some,
    b1, Option.bind_some, digits_f (by omega) d1, Option.bind_some, s1 _ (by omega), Option.bind_some, rcompare_f r s r3 s3 (by omega) (by omega) _ (by omega), Option.bind_some, r4, s4, a4, b4]
  rfl
theorem rfc_f (k : Nat) (hk : 10310 ≤ k) {h l d h2 l2 d2 : Int} (h0 : 0 ≤ h) (h1 : h < 18446744073709551616) (l0 : 0 ≤ l) (l1 : l < 18446744073709551616) (e0 : 0 ≤ d) (e1 : d < 18446744073709551616)
    (g0 : 0 ≤ h2) (g1 : h2 < 18446744073709551616) (m0 : 0 ≤ l2) (m1 : l2 < 18446744073709551616) (f0 : 0 ≤ d2) (f1 : d2 < 18446744073709551616) :
    hornbeamref05_Cmp.f k h l d h2 l2 d2 = some (FC (h * 18446744073709551616 + l) d (h2 * 18446744073709551616 + l2) d2) := by
  by_cases hd : d = 0
  · obtain ⟨k, rfl⟩ : ∃ q, k = q + 3 := ⟨k - 3, by omega⟩
    unfold hornbeamref05_Cmp.f FC
    rw [if_pos hd, if_pos hd]
    by_cases he : d2 = 0
    · rw [if_pos he, show (d2 == 0) = true from beq_iff_eq.2 he, hornbeamref05_Cmp.j0, if_pos rfl]
    · rw [if_neg he, show (d2 == 0) = false from beq_eq_false_iff_ne.2 he, hornbeamref05_Cmp.j0, if_neg (by decide), if_pos hd]
  · by_cases he : d2 = 0
    · obtain ⟨k, rfl⟩ : ∃ q, k = q + 3 := ⟨k - 3, by omega⟩
      unfold hornbeamref05_Cmp.f FC
      rw [if_neg hd, if_neg hd, if_pos he, hornbeamref05_Cmp.j0, if_neg (by decide), if_neg hd, if_pos he]
    · rw [refcmp_f h0 h1 l0 l1 (by omega) e1 g0 g1 m0 m1 (by omega) f1 k hk]
      unfold FC fracCmp
      rw [if_neg hd, if_neg he]
/-- The upper number, whole, and the lower one, of the fraction at a place. -/
def Nn (l : List S26) (i : Int) : Int := (rd_T26 l i).f0.f0 * 18446744073709551616 + (rd_T26 l i).f0.f1
def Dn (l : List S26) (i : Int) : Int := (rd_T26 l i).f1
def Cn (l : List S26) (i j : Int) : Int := FC (Nn l i) (Dn l i) (Nn l j) (Dn l j)
def GoodL (l : List S26) : Prop := ∀ x ∈ l, ((0 ≤ x.f0.f0 ∧ x.f0.f0 < 18446744073709551616) ∧ (0 ≤ x.f0.f1 ∧ x.f0.f1 < 18446744073709551616)) ∧ 0 ≤ x.f1 ∧ x.f1 < 18446744073709551616
theorem good_at {l : List S26} (hg : GoodL l) {i : Int} (h0 : 0 ≤ i) (h1 : i < l.length) : ((0 ≤ (rd_T26 l i).f0.f0 ∧ (rd_T26 l i).f0.f0 < 18446744073709551616) ∧ (0 ≤ (rd_T26 l i).f0.f1 ∧ (rd_T26 l i).f0.f1 < 18446744073709551616)) ∧ 0 ≤ (rd_T26 l i).f1 ∧ (rd_T26 l i).f1 < 18446744073709551616 := by
  apply hg
  unfold rd_T26
  have hi : i.toNat < l.length := by omega
  rw [show l.getD i.toNat z26 = l[i.toNat]'hi by simp [List.getD, hi]]
  exact List.getElem_mem _
theorem cmp_at {l : List S26} (hg : GoodL l) {i j : Int} (h0 : 0 ≤ i) (h1 : i < l.length) (j0 : 0 ≤ j) (j1 : j < l.length) (k : Nat) (hk : 1 ≤ k) :
    frac_Cmp.f k (rd_T26 l i).f0.f0 (rd_T26 l i).f0.f1 (rd_T26 l i).f1 (rd_T26 l j).f0.f0 (rd_T26 l j).f0.f1 (rd_T26 l j).f1 = some (Cn l i j) := by
  have a := good_at hg h0 h1; have b := good_at hg j0 j1
  exact fcmp_f k hk a.1.1.1 a.1.1.2 a.1.2.1 a.1.2.2 a.2.1 a.2.2 b.1.1.1 b.1.1.2 b.1.2.1 b.1.2.2 b.2.1 b.2.2
theorem rcmp_at {l : List S26} (hg : GoodL l) {i j : Int} (h0 : 0 ≤ i) (h1 : i < l.length) (j0 : 0 ≤ j) (j1 : j < l.length) (k : Nat) (hk : 10310 ≤ k) :
    hornbeamref05_Cmp.f k (rd_T26 l i).f0.f0 (rd_T26 l i).f0.f1 (rd_T26 l i).f1 (rd_T26 l j).f0.f0 (rd_T26 l j).f0.f1 (rd_T26 l j).f1 = some (Cn l i j) := by
  have a := good_at hg h0 h1; have b := good_at hg j0 j1
  exact rfc_f k hk a.1.1.1 a.1.1.2 a.1.2.1 a.1.2.2 a.2.1 a.2.2 b.1.1.1 b.1.1.2 b.1.2.1 b.1.2.2 b.2.1 b.2.2
theorem cn_anti (l : List S26) (i j : Int) : Cn l j i = -Cn l i j := FC_anti _ _ _ _
theorem cn_refl (l : List S26) (i : Int) : Cn l i i = 0 := FC_refl _ _
theorem cn_chain {l : List S26} (hg : GoodL l) {i j m : Int} (h0 : 0 ≤ i) (h1 : i < l.length) (j0 : 0 ≤ j) (j1 : j < l.length) (m0 : 0 ≤ m) (m1 : m < l.length) (a : Cn l i j ≤ 0) (b : Cn l j m ≤ 0) : Cn l i m ≤ 0 :=
  FC_chain _ _ _ _ _ _ (good_at hg h0 h1).2.1 (good_at hg j0 j1).2.1 (good_at hg m0 m1).2.1 a b
/-- The first greatest one of those from lo to hi. -/
def Is (l : List S26) (lo hi k : Int) : Prop := (k = -1 ∧ ∀ i, lo ≤ i → i < hi → Dn l i = 0) ∨
  (lo ≤ k ∧ k < hi ∧ Dn l k ≠ 0 ∧ (∀ i, lo ≤ i → i < hi → Dn l i ≠ 0 → Cn l i k ≤ 0) ∧ ∀ i, lo ≤ i → i < k → Dn l i ≠ 0 → Cn l i k < 0)
theorem is_one {l : List S26} {n k k' : Int} (h : Is l 0 n k) (h' : Is l 0 n k') : k = k' := by
  rcases h with ⟨h1, h2⟩ | ⟨h1, h2, h3, h4, h5⟩
  · rcases h' with ⟨g1, g2⟩ | ⟨g1, g2, g3, g4, g5⟩
    · omega
    · exact absurd (h2 k' g1 g2) g3
  · rcases h' with ⟨g1, g2⟩ | ⟨g1, g2, g3, g4, g5⟩
    · exact absurd (g2 k h1 h2) h3
    · rcases Int.lt_trichotomy k k' with h | h | h
      · have a := g5 k h1 h h3
        have b := h4 k' g1 g2 g3
        have c := cn_anti l k k'
        omega
      · exact h
      · have a := h5 k' g1 h g3
        have b := g4 k h1 h2 h3
        have c := cn_anti l k k'
        omega
theorem up_l {l : List S26} (hg : GoodL l) (hl : l.length ≤ 100) (d : Nat) : ∀ (i k : Int) (m : Nat), 0 ≤ i → i + d = l.length → Is l 0 i k → d + 5 ≤ m → ∃ r, api_Frac.l0 m l k l (l.length : Int) i = some r ∧ Is l 0 l.length r := by
  induction d with
  | zero =>
    intro i k m h0 hi hk hm
    obtain ⟨m, rfl⟩ : ∃ q, m = q + 1 := ⟨m - 1, by omega⟩
    refine ⟨k, ?_, by rw [← show i = (l.length : Int) by omega]; exact hk⟩
    rw [api_Frac.l0, if_neg (by omega)]
  | succ d ih =>
    intro i k m h0 hi hk hm
    obtain ⟨m, rfl⟩ : ∃ q, m = q + 1 := ⟨m - 1, by omega⟩
    have w : wrap64 (i + 1) = i + 1 := wrap64_id (by omega) (by omega)
    rw [api_Frac.l0, if_pos (by omega), if_pos h0, if_pos (by omega), right_f, Option.bind_some, w]
    by_cases hd : Dn l i = 0
    · rw [show ((rd_T26 l i).f1 != 0) = false from bne_eq_false_iff_eq.2 hd, if_neg (by decide)]
      refine ih (i + 1) k m (by omega) (by omega) ?_ (by omega)
      rcases hk with ⟨h1, h2⟩ | ⟨h1, h2, h3, h4, h5⟩
      · refine .inl ⟨h1, fun j j0 j1 => ?_⟩
        by_cases e : j = i
        · rw [e]; exact hd
        · exact h2 j j0 (by omega)
      · refine .inr ⟨h1, by omega, h3, fun j j0 j1 j2 => h4 j j0 ?_ j2, h5⟩
        by_cases e : j = i
        · rw [e] at j2; exact absurd hd j2
        · omega
    · rw [show ((rd_T26 l i).f1 != 0) = true from bne_iff_ne.2 hd, if_pos rfl]
      rcases hk with ⟨h1, h2⟩ | ⟨h1, h2, h3, h4, h5⟩
      · rw [if_pos (by omega)]
        refine ih (i + 1) i m (by omega) (by omega) (.inr ⟨h0, by omega, hd, fun j j0 j1 j2 => ?_, fun j j0 j1 j2 => absurd (h2 j j0 j1) j2⟩) (by omega)
        by_cases e : j = i
        · rw [e, cn_refl]; omega
        · exact absurd (h2 j j0 (by omega)) j2
      · rw [if_neg (by omega), if_pos h1, if_pos (by omega), cmp_at hg h0 (by omega) h1 (by omega) m (by omega), Option.bind_some]
        by_cases hc : Cn l i k > 0
        · rw [if_pos hc]
          have st : ∀ j, 0 ≤ j → j < i → Dn l j ≠ 0 → Cn l j i < 0 := by
            intro j j0 j1 j2
            have a := h4 j j0 j1 j2
            have b := cn_anti l j i
            refine Int.not_le.1 fun c => ?_
            have := cn_chain hg h0 (by omega) j0 (by omega) h1 (by omega) (by omega : Cn l i j ≤ 0) a
            omega
          refine ih (i + 1) i m (by omega) (by omega) (.inr ⟨h0, by omega, hd, fun j j0 j1 j2 => ?_, fun j j0 j1 j2 => st j j0 j1 j2⟩) (by omega)
          by_cases e : j = i
          · rw [e, cn_refl]; omega
          · have := st j j0 (by omega) j2; omega
        · rw [if_neg hc]
          refine ih (i + 1) k m (by omega) (by omega) (.inr ⟨h1, by omega, h3, fun j j0 j1 j2 => ?_, h5⟩) (by omega)
          by_cases e : j = i
          · rw [e]; omega
          · exact h4 j j0 (by omega) j2
theorem down_l {l : List S26} (hg : GoodL l) (hl : l.length ≤ 100) (d : Nat) : ∀ (i k : Int) (m : Nat), i + 1 = d → i < l.length → Is l (i + 1) l.length k → d + 10320 ≤ m → ∃ r, hornbeamref05_Best.l0 m l k i = some r ∧ Is l 0 l.length r := by
  induction d with
  | zero =>
    intro i k m hi hn hk hm
    obtain ⟨m, rfl⟩ : ∃ q, m = q + 1 := ⟨m - 1, by omega⟩
    refine ⟨k, ?_, by rw [← show i + 1 = 0 by omega]; exact hk⟩
    rw [hornbeamref05_Best.l0, if_neg (by omega)]
  | succ d ih =>
    intro i k m hi hn hk hm
    obtain ⟨m, rfl⟩ : ∃ q, m = q + 1 := ⟨m - 1, by omega⟩
    have w : wrap64 (i - 1) = i - 1 := wrap64_id (by omega) (by omega)
    have hp := (good_at hg (by omega) hn : _ ∧ 0 ≤ (rd_T26 l i).f1 ∧ _).2.1
    rw [hornbeamref05_Best.l0, if_pos (by omega), if_pos (by omega), if_pos hn, w]
    by_cases hd : Dn l i = 0
    · rw [if_neg (show ¬ ((rd_T26 l i).f1 > 0) from by unfold Dn at hd; omega)]
      refine ih (i - 1) k m (by omega) (by omega) ?_ (by omega)
      rw [show i - 1 + 1 = i by omega]
      rcases hk with ⟨h1, h2⟩ | ⟨h1, h2, h3, h4, h5⟩
      · refine .inl ⟨h1, fun j j0 j1 => ?_⟩
        by_cases e : j = i
        · rw [e]; exact hd
        · exact h2 j (by omega) j1
      · refine .inr ⟨by omega, h2, h3, fun j j0 j1 j2 => h4 j ?_ j1 j2, fun j j0 j1 j2 => h5 j ?_ j1 j2⟩
        · by_cases e : j = i
          · rw [e] at j2; exact absurd hd j2
          · omega
        · by_cases e : j = i
          · rw [e] at j2; exact absurd hd j2
          · omega
    · rw [if_pos (show (rd_T26 l i).f1 > 0 from by unfold Dn at hd; omega)]
      rcases hk with ⟨h1, h2⟩ | ⟨h1, h2, h3, h4, h5⟩
      · rw [if_pos (by omega)]
        refine ih (i - 1) i m (by omega) (by omega) ?_ (by omega)
        rw [show i - 1 + 1 = i by omega]
        refine .inr ⟨by omega, hn, hd, fun j j0 j1 j2 => ?_, fun j j0 j1 j2 => by omega⟩
        by_cases e : j = i
        · rw [e, cn_refl]; omega
        · exact absurd (h2 j (by omega) j1) j2
      · rw [if_neg (by omega), if_pos (by omega), if_pos h2, rcmp_at hg (by omega) hn (by omega) h2 m (by omega), Option.bind_some]
        by_cases hc : Cn l i k ≥ 0
        · rw [if_pos hc]
          refine ih (i - 1) i m (by omega) (by omega) ?_ (by omega)
          rw [show i - 1 + 1 = i by omega]
          refine .inr ⟨by omega, hn, hd, fun j j0 j1 j2 => ?_, fun j j0 j1 j2 => by omega⟩
          by_cases e : j = i
          · rw [e, cn_refl]; omega
          · have a := h4 j (by omega) j1 j2
            have b := cn_anti l i k
            exact cn_chain hg (by omega) j1 (by omega) h2 (by omega) hn a (by omega)
        · rw [if_neg hc]
          refine ih (i - 1) k m (by omega) (by omega) ?_ (by omega)
          rw [show i - 1 + 1 = i by omega]
          refine .inr ⟨by omega, h2, h3, fun j j0 j1 j2 => ?_, fun j j0 j1 j2 => ?_⟩
          · by_cases e : j = i
            · rw [e]; omega
            · exact h4 j (by omega) j1 j2
          · by_cases e : j = i
            · rw [e]; omega
            · exact h5 j (by omega) j1 j2
theorem law_l {l : List S26} (hg : GoodL l) (hl : l.length ≤ 100) {b : Int} (hb : Is l 0 l.length b) (d : Nat) : ∀ (i : Int) (m : Nat), 0 ≤ i → i + d = l.length → d + 5 ≤ m → hornbeamlaw05_FracBest.l0 m l b l (l.length : Int) i = some true := by
  induction d with
  | zero =>
    intro i m h0 hi hm
    obtain ⟨m, rfl⟩ : ∃ q, m = q + 1 := ⟨m - 1, by omega⟩
    rw [hornbeamlaw05_FracBest.l0, if_neg (by omega), fixed_f m (by omega), Option.bind_some]
  | succ d ih =>
    intro i m h0 hi hm
    obtain ⟨m, rfl⟩ : ∃ q, m = q + 1 := ⟨m - 1, by omega⟩
    have w : wrap64 (i + 1) = i + 1 := wrap64_id (by omega) (by omega)
    have nx := ih (i + 1) m (by omega) (by omega) (by omega)
    rw [hornbeamlaw05_FracBest.l0, if_pos (by omega), if_pos h0, if_pos (by omega), w]
    by_cases hd : Dn l i = 0
    · rw [if_pos (show (rd_T26 l i).f1 = 0 from hd)]; exact nx
    · rw [if_neg (show ¬ (rd_T26 l i).f1 = 0 from hd)]
      rcases hb with ⟨h1, h2⟩ | ⟨h1, h2, h3, h4, h5⟩
      · exact absurd (h2 i h0 (by omega)) hd
      · have a := h4 i h0 (by omega) hd
        rw [if_neg (by omega), if_pos h1, if_pos h2, cmp_at hg h0 (by omega) h1 h2 m (by omega), Option.bind_some, if_neg (by omega)]
        by_cases hk : i < b
        · have c := h5 i h0 hk hd
          rw [if_pos hk, Option.bind_some, if_neg (by omega)]; exact nx
        · rw [if_neg hk]; exact nx
end FracBest0
open FracBest0
theorem FracBest : hornbeamlaw05_FracBest.Pure := by
  intro l hl
  have hg : GoodL l := fun x hx => by
    have := hl.2 x hx
    exact ⟨⟨wf_u64 this.1.1, wf_u64 this.1.2⟩, wf_u64 this.2⟩
  refine ⟨11000, ?_⟩
  unfold hornbeamlaw05_FracBest.f
  by_cases h : (l.length : Int) > 100
  · rw [if_pos h, fixed_f _ (by omega), Option.bind_some]
  · rw [if_neg h]
    obtain ⟨r, r1, r2⟩ := up_l hg (by omega) l.length 0 (-1) 11000 (by omega) (by omega) (.inl ⟨rfl, fun i a b => by omega⟩) (by omega)
    obtain ⟨s, s1, s2⟩ := down_l hg (by omega) l.length ((l.length : Int) - 1) (-1) 11000 (by omega) (by omega) (.inl ⟨rfl, fun i a b => by omega⟩) (by omega)
    have e := is_one r2 s2
    subst e
    have hb : frac_Best.f 11000 l = some r := by
      unfold frac_Best.f api_Frac.f
      rw [r1, Option.bind_some]
    have hs : hornbeamref05_Best.f 11000 l = some r := by
      unfold hornbeamref05_Best.f
      rw [wrap64_id (by omega) (by omega)]; exact s1
    rw [hb, Option.bind_some, hs, Option.bind_some, if_pos rfl]
    exact law_l hg (by omega) r2 l.length 0 11000 (by omega) (by omega) (by omega)

end Go.Proofs.YtpbgfmbkjojdeaaDoor.Pure
