/- For every signed fraction the law FracTexts answers true. No condition. -/
import Derived.Test.YtpbgfmbkjojdeaaDoorQFracTextsx3
import Derived.Test.YtpbgfmbkjojdeaaDoorP64
namespace Go.Proofs.YtpbgfmbkjojdeaaDoor.Pure
open Go.RowKit Go.Proofs.YtpbgfmbkjojdeaaDoor.QFracTexts Go.Proofs.YtpbgfmbkjojdeaaDoorW.PrintWords Go.Proofs.YtpbgfmbkjojdeaaDoorW.PrintLast
open Go.Proofs.YtpbgfmbkjojdeaaDoor.P64
set_option linter.unusedVariables false
set_option linter.unusedSimpArgs false
namespace FracTexts0
theorem add64_f {a b c : Int} (a0 : 0 ≤ a) (b0 : 0 ≤ b) (c0 : 0 ≤ c) (c1 : c ≤ 1) : bits_Add64.f a b c = some ((a + b + c) % 18446744073709551616, (a + b + c) / 18446744073709551616) := by
  unfold bits_Add64.f
  rw [if_pos ⟨a0, b0, c0, c1⟩]
theorem times_f {h l n : Int} (h0 : 0 ≤ h) (h1 : h < 18446744073709551616) (l0 : 0 ≤ l) (l1 : l < 18446744073709551616) (n0 : 0 ≤ n) (n1 : n < 18446744073709551616) :
    prod_Times.f h l n = some (longD ((h * 18446744073709551616 + l) * n)) := by
  unfold prod_Times.f
  rw [show bits_Mul64.f l n = some (mul64 l n) from rfl, show bits_Mul64.f h n = some (mul64 h n) from rfl, Option.bind_some, Option.bind_some, mul64_eq l0 l1 n0 n1, mul64_eq h0 h1 n0 n1]
  have p1 := mul_bound64 l0 l1 n0 n1
  have p2 := mul_bound64 h0 h1 n0 n1
  have e : (h * 18446744073709551616 + l) * n = (h * n) * 18446744073709551616 + l * n := by rw [Int.add_mul, Int.mul_right_comm]
  rw [e]
  unfold longD
  generalize h * n = q at *
  generalize l * n = p at *
  rw [add64_f (by omega) (by omega) (by omega) (by omega), Option.bind_some, uwrap_id (by omega) (by omega)]
  simp only [Option.some.injEq, Prod.mk.injEq]
  omega
theorem compare_f (a b : Int) : cmp_Compare_uint64.f a b = some (cmpI a b) := by
  unfold cmp_Compare_uint64.f cmp_isNaN_uint64.f cmpI
  rw [Option.bind_some, Option.bind_some, if_neg (by simp), if_neg (by simp)]
  split
  · rfl
  · split <;> rfl
theorem cmplong_f {X Y : Int} (_x0 : 0 ≤ X) (_y0 : 0 ≤ Y) : prod_CmpLong.f (longD X).1 (longD X).2.1 (longD X).2.2 (longD Y).1 (longD Y).2.1 (longD Y).2.2 = some (cmpI X Y) := by
  unfold prod_CmpLong.f longD
  simp only [compare_f]
  unfold cmpI
  have hx := Int.mul_ediv_add_emod X 18446744073709551616
  have hy := Int.mul_ediv_add_emod Y 18446744073709551616
  have hx2 := Int.mul_ediv_add_emod (X / 18446744073709551616) 18446744073709551616
  have hy2 := Int.mul_ediv_add_emod (Y / 18446744073709551616) 18446744073709551616
  have b1 := Int.emod_nonneg X (b := 18446744073709551616) (by decide)
  have b2 := Int.emod_lt_of_pos X (b := 18446744073709551616) (by decide)
  have b3 := Int.emod_nonneg Y (b := 18446744073709551616) (by decide)
  have b4 := Int.emod_lt_of_pos Y (b := 18446744073709551616) (by decide)
  have b5 := Int.emod_nonneg (X / 18446744073709551616) (b := 18446744073709551616) (by decide)
  have b6 := Int.emod_lt_of_pos (X / 18446744073709551616) (b := 18446744073709551616) (by decide)
  have b7 := Int.emod_nonneg (Y / 18446744073709551616) (b := 18446744073709551616) (by decide)
  have b8 := Int.emod_lt_of_pos (Y / 18446744073709551616) (b := 18446744073709551616) (by decide)
  generalize X % 18446744073709551616 = u0 at *
  generalize Y % 18446744073709551616 = v0 at *
  generalize X / 18446744073709551616 % 18446744073709551616 = u1 at *
  generalize Y / 18446744073709551616 % 18446744073709551616 = v1 at *
  generalize X / 18446744073709551616 / 18446744073709551616 = u2 at *
  generalize Y / 18446744073709551616 / 18446744073709551616 = v2 at *
  generalize X / 18446744073709551616 = p at *
  generalize Y / 18446744073709551616 = q at *
  by_cases h2 : u2 = v2
  · rw [if_pos h2]
    by_cases h1 : u1 = v1
    · rw [if_pos h1]
      by_cases h0 : u0 = v0
      · rw [if_pos h0, if_neg (by omega), if_neg (by omega)]
      · rw [if_neg h0]
        rcases Int.lt_or_gt_of_ne h0 with h | h
        · rw [if_pos h, if_pos (by omega)]
        · rw [if_neg (by omega), if_pos h, if_neg (by omega), if_pos (by omega)]
    · rw [if_neg h1]
      rcases Int.lt_or_gt_of_ne h1 with h | h
      · rw [if_pos h, if_pos (by omega)]
      · rw [if_neg (by omega), if_pos h, if_neg (by omega), if_pos (by omega)]
  · rw [if_neg h2]
    rcases Int.lt_or_gt_of_ne h2 with h | h
    · rw [if_pos h, if_pos (by omega)]
    · rw [if_neg (by omega), if_pos h, if_neg (by omega), if_pos (by omega)]
/-- How two fractions stand to one another: their upper numbers n, m, their lower ones d, e. -/
def FC (n d m e : Int) : Int := if d = 0 then (if e = 0 then 0 else -1) else if e = 0 then 1 else cmpI (n * e) (m * d)
theorem cmpI_cases (x y : Int) : (cmpI x y = -1 ∧ x < y) ∨ (cmpI x y = 0 ∧ x = y) ∨ (cmpI x y = 1 ∧ y < x) := by
  unfold cmpI
  by_cases h : x < y
  · rw [if_pos h]; exact .inl ⟨rfl, h⟩
  · rw [if_neg h]
    by_cases h2 : y < x
    · rw [if_pos h2]; exact .inr (.inr ⟨rfl, h2⟩)
    · rw [if_neg h2]; exact .inr (.inl ⟨rfl, by omega⟩)
theorem cmpI_anti (x y : Int) : cmpI y x = -cmpI x y := by
  rcases cmpI_cases x y with ⟨h, g⟩ | ⟨h, g⟩ | ⟨h, g⟩ <;> rcases cmpI_cases y x with ⟨h2, g2⟩ | ⟨h2, g2⟩ | ⟨h2, g2⟩ <;> omega
theorem FC_cases (n d m e : Int) : FC n d m e = -1 ∨ FC n d m e = 0 ∨ FC n d m e = 1 := by
  unfold FC
  split
  · split
    · exact .inr (.inl rfl)
    · exact .inl rfl
  · split
    · exact .inr (.inr rfl)
    · rcases cmpI_cases (n * e) (m * d) with h | h | h
      · exact .inl h.1
      · exact .inr (.inl h.1)
      · exact .inr (.inr h.1)
theorem FC_anti (n d m e : Int) : FC m e n d = -FC n d m e := by
  unfold FC
  by_cases hd : d = 0
  · by_cases he : e = 0
    · rw [if_pos hd, if_pos he, if_pos he, if_pos hd]; rfl
    · rw [if_neg he, if_pos hd, if_pos hd, if_neg he]; rfl
  · by_cases he : e = 0
    · rw [if_pos he, if_neg hd, if_neg hd, if_pos he]
    · rw [if_neg he, if_neg hd, if_neg hd, if_neg he, cmpI_anti]
theorem FC_refl (n d : Int) : FC n d n d = 0 := by
  have := FC_anti n d n d
  omega
theorem FC_le (n d m e : Int) (d0 : 0 ≤ d) (e0 : 0 ≤ e) : FC n d m e ≤ 0 ↔ (d = 0 ∨ (e ≠ 0 ∧ n * e ≤ m * d)) := by
  unfold FC
  by_cases hd : d = 0
  · rw [if_pos hd]
    exact ⟨fun _ => .inl hd, fun _ => by split <;> omega⟩
  · rw [if_neg hd]
    by_cases he : e = 0
    · rw [if_pos he]
      exact ⟨fun h => absurd h (by omega), fun h => by rcases h with h | h <;> omega⟩
    · rw [if_neg he]
      rcases cmpI_cases (n * e) (m * d) with ⟨h, g⟩ | ⟨h, g⟩ | ⟨h, g⟩ <;> rw [h]
      · exact ⟨fun _ => .inr ⟨he, by omega⟩, fun _ => by omega⟩
      · exact ⟨fun _ => .inr ⟨he, by omega⟩, fun _ => by omega⟩
      · exact ⟨fun h => absurd h (by omega), fun h => by rcases h with h | h <;> omega⟩
theorem FC_chain (n d m e p f : Int) (d0 : 0 ≤ d) (e0 : 0 ≤ e) (f0 : 0 ≤ f) (h1 : FC n d m e ≤ 0) (h2 : FC m e p f ≤ 0) : FC n d p f ≤ 0 := by
  rw [FC_le _ _ _ _ d0 e0] at h1
  rw [FC_le _ _ _ _ e0 f0] at h2
  rw [FC_le _ _ _ _ d0 f0]
  rcases h1 with h1 | ⟨h1, g1⟩
  · exact .inl h1
  · rcases h2 with h2 | ⟨h2, g2⟩
    · exact absurd h2 h1
    · refine .inr ⟨h2, ?_⟩
      have a1 : n * e * f ≤ m * d * f := Int.mul_le_mul_of_nonneg_right g1 f0
      have a2 : m * f * d ≤ p * e * d := Int.mul_le_mul_of_nonneg_right g2 d0
      have a3 : m * d * f = m * f * d := by rw [Int.mul_assoc, Int.mul_comm d f, ← Int.mul_assoc]
      have a4 : n * e * f = e * (n * f) := by rw [Int.mul_comm n e, Int.mul_assoc]
      have a5 : p * e * d = e * (p * d) := by rw [Int.mul_comm p e, Int.mul_assoc]
      exact Int.le_of_mul_le_mul_left (a := e) (by rw [← a4, ← a5]; omega) (by omega)
theorem FC_chain2 (n d m e p f : Int) (d0 : 0 ≤ d) (e0 : 0 ≤ e) (f0 : 0 ≤ f) (h1 : 0 ≤ FC n d m e) (h2 : 0 ≤ FC m e p f) : 0 ≤ FC n d p f := by
  have a := FC_anti n d m e; have b := FC_anti m e p f; have c := FC_anti n d p f
  have := FC_chain p f m e n d f0 e0 d0 (by omega) (by omega)
  omega
theorem compareI_f (a b : Int) : cmp_Compare_int.f a b = some (cmpI a b) := by
  unfold cmp_Compare_int.f cmp_isNaN_int.f cmpI
  rw [Option.bind_some, Option.bind_some, if_neg (by simp), if_neg (by simp)]
  split
  · rfl
  · split <;> rfl
theorem right_f (h l d : Int) : frac_Right.f h l d = some (d != 0) := rfl
theorem rank_f (b : Bool) : frac_rank.f b = some (if b = true then 1 else 0) := by unfold frac_rank.f; split <;> rfl
theorem fcmp_j (k : Nat) {h l d h2 l2 d2 : Int} (h0 : 0 ≤ h) (h1 : h < 18446744073709551616) (l0 : 0 ≤ l) (l1 : l < 18446744073709551616) (e0 : 0 ≤ d) (e1 : d < 18446744073709551616)
    (g0 : 0 ≤ h2) (g1 : h2 < 18446744073709551616) (m0 : 0 ≤ l2) (m1 : l2 < 18446744073709551616) (f0 : 0 ≤ d2) (f1 : d2 < 18446744073709551616) (hd : d ≠ 0) (he : d2 ≠ 0) :
    frac_Cmp.j0 (k + 1) false h l d h2 l2 d2 = some (FC (h * 18446744073709551616 + l) d (h2 * 18446744073709551616 + l2) d2) := by
  rw [frac_Cmp.j0, if_neg (by decide), times_f h0 h1 l0 l1 f0 f1, Option.bind_some, times_f g0 g1 m0 m1 e0 e1, Option.bind_some, cmplong_f (Int.mul_nonneg (by omega) f0) (Int.mul_nonneg (by omega) e0), Option.bind_some]
  unfold FC
  rw [if_neg hd, if_neg he]
theorem fcmp_f (k : Nat) (hk : 1 ≤ k) {h l d h2 l2 d2 : Int} (h0 : 0 ≤ h) (h1 : h < 18446744073709551616) (l0 : 0 ≤ l) (l1 : l < 18446744073709551616) (e0 : 0 ≤ d) (e1 : d < 18446744073709551616)
    (g0 : 0 ≤ h2) (g1 : h2 < 18446744073709551616) (m0 : 0 ≤ l2) (m1 : l2 < 18446744073709551616) (f0 : 0 ≤ d2) (f1 : d2 < 18446744073709551616) :
    frac_Cmp.f k h l d h2 l2 d2 = some (FC (h * 18446744073709551616 + l) d (h2 * 18446744073709551616 + l2) d2) := by
  obtain ⟨k, rfl⟩ : ∃ q, k = q + 1 := ⟨k - 1, by omega⟩
  unfold frac_Cmp.f
  rw [right_f, Option.bind_some]
  by_cases hd : d = 0
  · rw [hd, if_neg (by decide), frac_Cmp.j0, if_pos rfl, right_f, Option.bind_some, rank_f, Option.bind_some, right_f, Option.bind_some, rank_f, Option.bind_some, compareI_f, Option.bind_some]
    unfold FC
    rw [if_pos rfl]
    by_cases he : d2 = 0
    · rw [if_pos he, he]; rfl
    · rw [if_neg he, show (d2 != 0) = true from bne_iff_ne.2 he]; rfl
  · rw [show (d != 0) = true from bne_iff_ne.2 hd, if_pos rfl, right_f, Option.bind_some]
    by_cases he : d2 = 0
    · rw [he, show (!((0 : Int) != 0)) = true from rfl, frac_Cmp.j0, if_pos rfl, right_f, Option.bind_some, rank_f, Option.bind_some, right_f, Option.bind_some, rank_f, Option.bind_some, compareI_f, Option.bind_some]
      unfold FC
      rw [if_neg hd, if_pos rfl, show (d != 0) = true from bne_iff_ne.2 hd]; rfl
    · rw [show (!(d2 != 0)) = false by rw [show (d2 != 0) = true from bne_iff_ne.2 he]; rfl]
      exact fcmp_j k h0 h1 l0 l1 e0 e1 g0 g1 m0 m1 f0 f1 hd he
theorem dec_one {u : Nat} (h : u < 10) : Lib.decDigits u = [UInt8.ofNat (48 + u)] := by
  rw [Lib.decDigits, dif_pos h]
theorem dec_more {u : Nat} (h : ¬ u < 10) : Lib.decDigits u = Lib.decDigits (u / 10) ++ [UInt8.ofNat (48 + u % 10)] := by
  rw [Lib.decDigits, dif_neg h]
theorem dec_len (d : Nat) : ∀ u : Nat, u < 10 ^ (d + 1) → (Lib.decDigits u).length ≤ d + 1 := by
  induction d with
  | zero => intro u h; rw [dec_one (by simpa using h)]; simp
  | succ d ih =>
    intro u h
    by_cases h1 : u < 10
    · rw [dec_one h1]; simp
    · rw [dec_more h1, List.length_append, List.length_singleton]
      have := ih (u / 10) (by rw [Nat.pow_succ] at h; omega)
      omega
theorem itoa_len {n : Int} (h0 : -9223372036854775808 ≤ n) (h1 : n ≤ 9223372036854775807) : (Lib.itoa n).length ≤ 30 := by
  unfold Lib.itoa
  split
  · have := dec_len 19 n.natAbs (by omega)
    rw [List.length_cons]; omega
  · have := dec_len 19 n.toNat (by omega)
    omega
theorem fmt_f {n : Int} (h0 : -9223372036854775808 ≤ n) (h1 : n ≤ 9223372036854775807) : strconv_FormatInt_23.f n 10 = some ⟨(Lib.itoa n).toArray⟩ := by
  unfold strconv_FormatInt_23.f
  rw [if_pos ⟨rfl, h0, h1⟩]
theorem text_f {n d : Int} (h0 : -9223372036854775808 ≤ n) (h1 : n ≤ 9223372036854775807) (e1 : d ≤ 9223372036854775807) :
    frac_Text.f n d = some (if d < 1 then ⟨#[110, 111, 110, 101]⟩ else (⟨(Lib.itoa n).toArray⟩ ++ ⟨#[47]⟩) ++ ⟨(Lib.itoa d).toArray⟩) := by
  unfold frac_Text.f
  by_cases hd : d < 1
  · rw [if_pos hd, if_pos hd]
  · have a := itoa_len h0 h1
    have b := itoa_len (n := d) (by omega) e1
    have z1 : (⟨(Lib.itoa n).toArray⟩ : ByteArray).size = (Lib.itoa n).length := rfl
    have z2 : (⟨(Lib.itoa d).toArray⟩ : ByteArray).size = (Lib.itoa d).length := rfl
    rw [if_neg hd, if_neg hd, fmt_f h0 h1, Option.bind_some, if_pos (by omega), fmt_f (by omega) e1, Option.bind_some, if_pos (by rw [ByteArray.size_append, z1, z2]; show (Lib.itoa n).length + 1 + _ ≤ _; omega)]
theorem of_f (n d : Int) : frac_Of.f n d = some (0, n, d) := rfl
theorem fixed_f (k : Nat) (hk : 1 ≤ k) : hornbeamlaw05_fixed.f k = some true := by
  have i1 : Lib.itoa (-1) = [45, 49] := by
    unfold Lib.itoa
    rw [if_pos (by decide), show (-1 : Int).natAbs = 1 from rfl, dec_one (by decide)]; rfl
  have i4 : Lib.itoa 4 = [52] := by
    unfold Lib.itoa
    rw [if_neg (by decide), show (4 : Int).toNat = 4 from rfl, dec_one (by decide)]; rfl
  unfold hornbeamlaw05_fixed.f
  rw [of_f, Option.bind_some]
  dsimp only
  rw [fcmp_f k hk (by omega) (by omega) (by omega) (by omega) (by omega) (by omega) (by omega) (by omega) (by omega) (by omega) (by omega) (by omega), Option.bind_some, if_pos (by decide), Option.bind_some, of_f, Option.bind_some]
  dsimp only
  rw [fcmp_f k hk (by omega) (by omega) (by omega) (by omega) (by omega) (by omega) (by omega) (by omega) (by omega) (by omega) (by omega) (by omega), Option.bind_some, if_pos (by decide), text_f (by omega) (by omega) (by omega), Option.bind_some, i1, i4, if_neg (by decide)]
  decide +kernel
theorem rsize_f {a : Int} (a0 : -9223372036854775808 ≤ a) (a1 : a ≤ 9223372036854775807) : hornbeamref04_Size.f a = some ((a.natAbs : Nat) : Int) := by
  unfold hornbeamref04_Size.f
  split
  · rw [uwrap_id (by omega) (by omega)]; congr 1; omega
  · rw [wrap64_id (n := a + 1) (by omega) (by omega), wrap64_id (by omega) (by omega), uwrap_id (n := -(a + 1)) (by omega) (by omega), uwrap_id (by omega) (by omega)]; congr 1; omega
theorem digit_at : ∀ m, m < 10 → (⟨#[48, 49, 50, 51, 52, 53, 54, 55, 56, 57]⟩ : ByteArray).extract m (m + 1) = ⟨[UInt8.ofNat (48 + m)].toArray⟩ := by decide +kernel
theorem app_list (a b : List UInt8) : (⟨a.toArray⟩ : ByteArray) ++ ⟨b.toArray⟩ = ⟨(a ++ b).toArray⟩ := by
  apply ByteArray.ext
  rw [ByteArray.data_append]
  simp
theorem digit_of {x : Int} (h0 : 0 ≤ x) (h1 : x < 10) : (⟨#[48, 49, 50, 51, 52, 53, 54, 55, 56, 57]⟩ : ByteArray).extract x.toNat (IntKind.u64.wrap (x + 1)).toNat = ⟨[UInt8.ofNat (48 + x.toNat)].toArray⟩ := by
  rw [uwrap_id (by omega) (by omega), show (x + 1).toNat = x.toNat + 1 by omega]
  exact digit_at _ (by omega)
theorem digits_l (d : Nat) : ∀ (u : Nat) (s : List UInt8) (k : Nat), u < 10 ^ (d + 1) → u < 18446744073709551616 → d < k → s.length + d ≤ 1000 →
    hornbeamref05_Digits.l0 k (u : Int) ⟨s.toArray⟩ = some ⟨(Lib.decDigits u ++ s).toArray⟩ := by
  have last : ∀ (u : Nat) (s : List UInt8) (k : Nat), u < 10 → 0 < k → s.length ≤ 1000 → hornbeamref05_Digits.l0 k (u : Int) ⟨s.toArray⟩ = some ⟨(Lib.decDigits u ++ s).toArray⟩ := by
    intro u s k h hk hs
    obtain ⟨k, rfl⟩ : ∃ q, k = q + 1 := ⟨k - 1, by omega⟩
    have hw : IntKind.u64.wrap ((u : Int) + 1) = (u : Int) + 1 := uwrap_id (by omega) (by omega)
    have hd := digit_of (x := (u : Int)) (by omega) (by omega)
    have z1 : (⟨[UInt8.ofNat (48 + (u : Int).toNat)].toArray⟩ : ByteArray).size = 1 := rfl
    have z2 : (⟨s.toArray⟩ : ByteArray).size = s.length := rfl
    rw [hornbeamref05_Digits.l0, if_neg (by omega), if_pos (by omega), if_pos (by omega), if_pos (by omega), hd, if_pos (by omega), app_list, dec_one h]
    rfl
  induction d with
  | zero =>
    intro u s k h _ hk hs
    exact last u s k (by simpa using h) (by omega) (by omega)
  | succ d ih =>
    intro u s k h h64 hk hs
    by_cases h1 : u < 10
    · exact last u s k h1 (by omega) (by omega)
    · obtain ⟨k, rfl⟩ : ∃ q, k = q + 1 := ⟨k - 1, by omega⟩
      have e1 : Int.tmod (u : Int) 10 = ((u % 10 : Nat) : Int) := by rw [Int.tmod_eq_emod_of_nonneg (by omega)]; omega
      have e2 : Int.tdiv (u : Int) 10 = ((u / 10 : Nat) : Int) := by rw [Int.tdiv_eq_ediv_of_nonneg (by omega)]; omega
      have hw : IntKind.u64.wrap (((u % 10 : Nat) : Int) + 1) = ((u % 10 : Nat) : Int) + 1 := uwrap_id (by omega) (by omega)
      have hd := digit_of (x := ((u % 10 : Nat) : Int)) (by omega) (by omega)
      have z1 : (⟨[UInt8.ofNat (48 + ((u % 10 : Nat) : Int).toNat)].toArray⟩ : ByteArray).size = 1 := rfl
      have z2 : (⟨s.toArray⟩ : ByteArray).size = s.length := rfl
      rw [hornbeamref05_Digits.l0, if_pos (by omega), e1, e2, if_pos (by omega), if_pos (by omega), if_pos (by omega), hd, if_pos (by omega), app_list, uwrap_id (n := ((u / 10 : Nat) : Int)) (by omega) (by omega), Int.toNat_natCast]
      rw [ih (u / 10) _ k (by rw [Nat.pow_succ] at h; omega) (by omega) (by omega) (by rw [List.length_append, List.length_singleton]; omega), dec_more h1, List.append_assoc]
theorem digits_f (u : Nat) (h : u < 18446744073709551616) (k : Nat) (hk : 20 ≤ k) : hornbeamref05_Digits.f k (u : Int) = some ⟨(Lib.decDigits u).toArray⟩ := by
  have := digits_l 19 u [] k (by omega) h (by omega) (by simp)
  rw [List.append_nil] at this
  exact this
theorem whole_f {n : Int} (h0 : -9223372036854775808 ≤ n) (h1 : n ≤ 9223372036854775807) (k : Nat) (hk : 20 ≤ k) : hornbeamref05_Whole.f k n = some ⟨(Lib.itoa n).toArray⟩ := by
  unfold hornbeamref05_Whole.f Lib.itoa
  by_cases h : n < 0
  · have z := dec_len 19 n.natAbs (by omega)
    have z2 : (⟨(Lib.decDigits n.natAbs).toArray⟩ : ByteArray).size = (Lib.decDigits n.natAbs).length := rfl
    rw [if_pos h, if_pos h, rsize_f h0 h1, Option.bind_some, digits_f _ (by omega) k hk, Option.bind_some, if_pos (by omega)]
    exact congrArg some (app_list [45] _)
  · rw [if_neg h, if_neg h, uwrap_id (by omega) (by omega)]
    obtain ⟨m, rfl⟩ := Int.eq_ofNat_of_zero_le (show 0 ≤ n by omega)
    have e : hornbeamref05_Digits.f k ((m : Nat) : Int) = _ := digits_f m (by omega) k hk
    rw [e, Option.bind_some]; rfl
theorem rtext_f {n d : Int} (h0 : -9223372036854775808 ≤ n) (h1 : n ≤ 9223372036854775807) (e1 : d ≤ 9223372036854775807) (k : Nat) (hk : 20 ≤ k) :
    hornbeamref05_Text.f k n d = some (if d < 1 then ⟨#[110, 111, 110, 101]⟩ else (⟨(Lib.itoa n).toArray⟩ ++ ⟨#[47]⟩) ++ ⟨(Lib.itoa d).toArray⟩) := by
  unfold hornbeamref05_Text.f
  by_cases hd : d < 1
  · rw [if_pos hd, if_pos hd]
  · have a := itoa_len h0 h1
    have b := itoa_len (n := d) (by omega) e1
    have z1 : (⟨(Lib.itoa n).toArray⟩ : ByteArray).size = (Lib.itoa n).length := rfl
    have z2 : (⟨(Lib.itoa d).toArray⟩ : ByteArray).size = (Lib.itoa d).length := rfl
    rw [if_neg hd, if_neg hd, whole_f h0 h1 k hk, Option.bind_some, if_pos (by omega), whole_f (by omega) e1 k hk, Option.bind_some, if_pos (by rw [ByteArray.size_append, z1, z2]; show (Lib.itoa n).length + 1 + _ ≤ _; omega)]
end FracTexts0
open FracTexts0
theorem FracTexts : hornbeamlaw05_FracTexts.Pure := by
  intro n d hn hd
  have a := wf_i64 hn; have b := wf_i64 hd
  refine ⟨30, ?_⟩
  unfold hornbeamlaw05_FracTexts.f
  rw [fixed_f 30 (by omega), Option.bind_some, if_pos rfl, text_f a.1 a.2 b.2, Option.bind_some, rtext_f a.1 a.2 b.2 30 (by omega), Option.bind_some, beq_self_eq_true]

end Go.Proofs.YtpbgfmbkjojdeaaDoor.Pure
