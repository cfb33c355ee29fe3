/- For all numbers the law FracSame answers true. No condition. -/
import Derived.Test.YtpbgfmbkjojdeaaDoorQFracSamex4
import Derived.Test.YtpbgfmbkjojdeaaDoorP64
namespace Go.Proofs.YtpbgfmbkjojdeaaDoor.Pure
open Go.RowKit Go.Proofs.YtpbgfmbkjojdeaaDoor.QFracSame Go.Proofs.YtpbgfmbkjojdeaaDoorW.PrintWords Go.Proofs.YtpbgfmbkjojdeaaDoorW.PrintLast
open Go.Proofs.YtpbgfmbkjojdeaaDoor.P64
set_option linter.unusedVariables false
set_option linter.unusedSimpArgs false
namespace FracSame0
theorem add64_f {a b c : Int} (a0 : 0 ≤ a) (b0 : 0 ≤ b) (c0 : 0 ≤ c) (c1 : c ≤ 1) : bits_Add64.f a b c = some ((a + b + c) % 18446744073709551616, (a + b + c) / 18446744073709551616) := by
  unfold bits_Add64.f
  rw [if_pos ⟨a0, b0, c0, c1⟩]
theorem times_f {h l n : Int} (h0 : 0 ≤ h) (h1 : h < 18446744073709551616) (l0 : 0 ≤ l) (l1 : l < 18446744073709551616) (n0 : 0 ≤ n) (n1 : n < 18446744073709551616) :
    prod_Times.f h l n = some (longD ((h * 18446744073709551616 + l) * n)) := by
  unfold prod_Times.f
  rw [show bits_Mul64.f l n = some (mul64 l n) from rfl, show bits_Mul64.f h n = some (mul64 h n) from rfl, Option.bind_some, Option.bind_some, mul64_eq l0 l1 n0 n1, mul64_eq h0 h1 n0 n1]
  have p1 := mul_bound64 l0 l1 n0 n1
  have p2 := mul_bound64 h0 h1 n0 n1
  have e : (h * 18446744073709551616 + l) * n = (h * n) * 18446744073709551616 + l * n := by rw [Int.add_mul, Int.mul_right_comm]
  rw [e]
  unfold longD
  generalize h * n = q at *
  generalize l * n = p at *
  rw [add64_f (by omega) (by omega) (by omega) (by omega), Option.bind_some, uwrap_id (by omega) (by omega)]
  simp only [Option.some.injEq, Prod.mk.injEq]
  omega
theorem compare_f (a b : Int) : cmp_Compare_uint64.f a b = some (cmpI a b) := by
  unfold cmp_Compare_uint64.f cmp_isNaN_uint64.f cmpI
  rw [Option.bind_some, Option.bind_some, if_neg (by simp), if_neg (by simp)]
  split
  · rfl
  · split <;> rfl
theorem cmplong_f {X Y : Int} (_x0 : 0 ≤ X) (_y0 : 0 ≤ Y) : prod_CmpLong.f (longD X).1 (longD X).2.1 (longD X).2.2 (longD Y).1 (longD Y).2.1 (longD Y).2.2 = some (cmpI X Y) := by
  unfold prod_CmpLong.f longD
  simp only [compare_f]
  unfold cmpI
  have hx := Int.mul_ediv_add_emod X 18446744073709551616
  have hy := Int.mul_ediv_add_emod Y 18446744073709551616
  have hx2 := Int.mul_ediv_add_emod (X / 18446744073709551616) 18446744073709551616
  have hy2 := Int.mul_ediv_add_emod (Y / 18446744073709551616) 18446744073709551616
  have b1 := Int.emod_nonneg X (b := 18446744073709551616) (by decide)
  have b2 := Int.emod_lt_of_pos X (b := 18446744073709551616) (by decide)
  have b3 := Int.emod_nonneg Y (b := 18446744073709551616) (by decide)
  have b4 := Int.emod_lt_of_pos Y (b := 18446744073709551616) (by decide)
  have b5 := Int.emod_nonneg (X / 18446744073709551616) (b := 18446744073709551616) (by decide)
  have b6 := Int.emod_lt_of_pos (X / 18446744073709551616) (b := 18446744073709551616) (by decide)
  have b7 := Int.emod_nonneg (Y / 18446744073709551616) (b := 18446744073709551616) (by decide)
  have b8 := Int.emod_lt_of_pos (Y / 18446744073709551616) (b := 18446744073709551616) (by decide)
  generalize X % 18446744073709551616 = u0 at *
  generalize Y % 18446744073709551616 = v0 at *
  generalize X / 18446744073709551616 % 18446744073709551616 = u1 at *
  generalize Y / 18446744073709551616 % 18446744073709551616 = v1 at *
  generalize X / 18446744073709551616 / 18446744073709551616 = u2 at *
  generalize Y / 18446744073709551616 / 18446744073709551616 = v2 at *
  generalize X / 18446744073709551616 = p at *
  generalize Y / 18446744073709551616 = q at *
  by_cases h2 : u2 = v2
  · rw [if_pos h2]
    by_cases h1 : u1 = v1
    · rw [if_pos h1]
      by_cases h0 : u0 = v0
      · rw [if_pos h0, if_neg (by omega), if_neg (by omega)]
      · rw [if_neg h0]
        rcases Int.lt_or_gt_of_ne h0 with h | h
        · rw [if_pos h, if_pos (by omega)]
        · rw [if_neg (by omega), if_pos h, if_neg (by omega), if_pos (by omega)]
    · rw [if_neg h1]
      rcases Int.lt_or_gt_of_ne h1 with h | h
      · rw [if_pos h, if_pos (by omega)]
      · rw [if_neg (by omega), if_pos h, if_neg (by omega), if_pos (by omega)]
  · rw [if_neg h2]
    rcases Int.lt_or_gt_of_ne h2 with h | h
    · rw [if_pos h, if_pos (by omega)]
    · rw [if_neg (by omega), if_pos h, if_neg (by omega), if_pos (by omega)]
/-- How two fractions stand to one another: their upper numbers n, m, their lower ones d, e. -/
def FC (n d m e : Int) : Int := if d = 0 then (if e = 0 then 0 else -1) else if e = 0 then 1 else cmpI (n * e) (m * d)
theorem cmpI_cases (x y : Int) : (cmpI x y = -1 ∧ x < y) ∨ (cmpI x y = 0 ∧ x = y) ∨ (cmpI x y = 1 ∧ y < x) := by
  unfold cmpI
  by_cases h : x < y
  · rw [if_pos h]; exact .inl ⟨rfl, h⟩
  · rw [if_neg h]
    by_cases h2 : y < x
    · rw [if_pos h2]; exact .inr (.inr ⟨rfl, h2⟩)
    · rw [if_neg h2]; exact .inr (.inl ⟨rfl, by omega⟩)
theorem cmpI_anti (x y : Int) : cmpI y x = -cmpI x y := by
  rcases cmpI_cases x y with ⟨h, g⟩ | ⟨h, g⟩ | ⟨h, g⟩ <;> rcases cmpI_cases y x with ⟨h2, g2⟩ | ⟨h2, g2⟩ | ⟨h2, g2⟩ <;> omega
theorem FC_cases (n d m e : Int) : FC n d m e = -1 ∨ FC n d m e = 0 ∨ FC n d m e = 1 := by
  unfold FC
  split
  · split
    · exact .inr (.inl rfl)
    · exact .inl rfl
  · split
    · exact .inr (.inr rfl)
    · rcases cmpI_cases (n * e) (m * d) with h | h | h
      · exact .inl h.1
      · exact .inr (.inl h.1)
      · exact .inr (.inr h.1)
theorem FC_anti (n d m e : Int) : FC m e n d = -FC n d m e := by
  unfold FC
  by_cases hd : d = 0
  · by_cases he : e = 0
    · rw [if_pos hd, if_pos he, if_pos he, if_pos hd]; rfl
    · rw [if_neg he, if_pos hd, if_pos hd, if_neg he]; rfl
  · by_cases he : e = 0
    · rw [if_pos he, if_neg hd, if_neg hd, if_pos he]
    · rw [if_neg he, if_neg hd, if_neg hd, if_neg he, cmpI_anti]
theorem FC_refl (n d : Int) : FC n d n d = 0 := by
  have := FC_anti n d n d
  omega
theorem FC_le (n d m e : Int) (d0 : 0 ≤ d) (e0 : 0 ≤ e) : FC n d m e ≤ 0 ↔ (d = 0 ∨ (e ≠ 0 ∧ n * e ≤ m * d)) := by
  unfold FC
  by_cases hd : d = 0
  · rw [if_pos hd]
    exact ⟨fun _ => .inl hd, fun _ => by split <;> omega⟩
  · rw [if_neg hd]
    by_cases he : e = 0
    · rw [if_pos he]
      exact ⟨fun h => absurd h (by omega), fun h => by rcases h with h | h <;> omega⟩
    · rw [if_neg he]
      rcases cmpI_cases (n * e) (m * d) with ⟨h, g⟩ | ⟨h, g⟩ | ⟨h, g⟩ <;> rw [h]
      · exact ⟨fun _ => .inr ⟨he, by omega⟩, fun _ => by omega⟩
      · exact ⟨fun _ => .inr ⟨he, by omega⟩, fun _ => by omega⟩
      · exact ⟨fun h => absurd h (by omega), fun h => by rcases h with h | h <;> omega⟩
theorem FC_chain (n d m e p f : Int) (d0 : 0 ≤ d) (e0 : 0 ≤ e) (f0 : 0 ≤ f) (h1 : FC n d m e ≤ 0) (h2 : FC m e p f ≤ 0) : FC n d p f ≤ 0 := by
  rw [FC_le _ _ _ _ d0 e0] at h1
  rw [FC_le _ _ _ _ e0 f0] at h2
  rw [FC_le _ _ _ _ d0 f0]
  rcases h1 with h1 | ⟨h1, g1⟩
  · exact .inl h1
  · rcases h2 with h2 | ⟨h2, g2⟩
    · exact absurd h2 h1
    · refine .inr ⟨h2, ?_⟩
      have a1 : n * e * f ≤ m * d * f := Int.mul_le_mul_of_nonneg_right g1 f0
      have a2 : m * f * d ≤ p * e * d := Int.mul_le_mul_of_nonneg_right g2 d0
      have a3 : m * d * f = m * f * d := by rw [Int.mul_assoc, Int.mul_comm d f, ← Int.mul_assoc]
      have a4 : n * e * f = e * (n * f) := by rw [Int.mul_comm n e, Int.mul_assoc]
      have a5 : p * e * d = e * (p * d) := by rw [Int.mul_comm p e, Int.mul_assoc]
      exact Int.le_of_mul_le_mul_left (a := e) (by rw [← a4, ← a5]; omega) (by omega)
theorem FC_chain2 (n d m e p f : Int) (d0 : 0 ≤ d) (e0 : 0 ≤ e) (f0 : 0 ≤ f) (h1 : 0 ≤ FC n d m e) (h2 : 0 ≤ FC m e p f) : 0 ≤ FC n d p f := by
  have a := FC_anti n d m e; have b := FC_anti m e p f; have c := FC_anti n d p f
  have := FC_chain p f m e n d f0 e0 d0 (by omega) (by omega)
  omega
theorem compareI_f (a b : Int) : cmp_Compare_int.f a b = some (cmpI a b) := by
  unfold cmp_Compare_int.f cmp_isNaN_int.f cmpI
  rw [Option.bind_some, Option.bind_some, if_neg (by simp), if_neg (by simp)]
  split
  · rfl
  · split <;> rfl
theorem right_f (h l d : Int) : frac_Right.f h l d = some (d != 0) := rfl
theorem rank_f (b : Bool) : frac_rank.f b = some (if b = true then 1 else 0) := by unfold frac_rank.f; split <;> rfl
theorem fcmp_j (k : Nat) {h l d h2 l2 d2 : Int} (h0 : 0 ≤ h) (h1 : h < 18446744073709551616) (l0 : 0 ≤ l) (l1 : l < 18446744073709551616) (e0 : 0 ≤ d) (e1 : d < 18446744073709551616)
    (g0 : 0 ≤ h2) (g1 : h2 < 18446744073709551616) (m0 : 0 ≤ l2) (m1 : l2 < 18446744073709551616) (f0 : 0 ≤ d2) (f1 : d2 < 18446744073709551616) (hd : d ≠ 0) (he : d2 ≠ 0) :
    frac_Cmp.j0 (k + 1) false h l d h2 l2 d2 = some (FC (h * 18446744073709551616 + l) d (h2 * 18446744073709551616 + l2) d2) := by
  rw [frac_Cmp.j0, if_neg (by decide), times_f h0 h1 l0 l1 f0 f1, Option.bind_some, times_f g0 g1 m0 m1 e0 e1, Option.bind_some, cmplong_f (Int.mul_nonneg (by omega) f0) (Int.mul_nonneg (by omega) e0), Option.bind_some]
  unfold FC
  rw [if_neg hd, if_neg he]
theorem fcmp_f (k : Nat) (hk : 1 ≤ k) {h l d h2 l2 d2 : Int} (h0 : 0 ≤ h) (h1 : h < 18446744073709551616) (l0 : 0 ≤ l) (l1 : l < 18446744073709551616) (e0 : 0 ≤ d) (e1 : d < 18446744073709551616)
    (g0 : 0 ≤ h2) (g1 : h2 < 18446744073709551616) (m0 : 0 ≤ l2) (m1 : l2 < 18446744073709551616) (f0 : 0 ≤ d2) (f1 : d2 < 18446744073709551616) :
    frac_Cmp.f k h l d h2 l2 d2 = some (FC (h * 18446744073709551616 + l) d (h2 * 18446744073709551616 + l2) d2) := by
  obtain ⟨k, rfl⟩ : ∃ q, k = q + 1 := ⟨k - 1, by omega⟩
  unfold frac_Cmp.f
  rw [right_f, Option.bind_some]
  by_cases hd : d = 0
  · rw [hd, if_neg (by decide), frac_Cmp.j0, if_pos rfl, right_f, Option.bind_some, rank_f, Option.bind_some, right_f, Option.bind_some, rank_f, Option.bind_some, compareI_f, Option.bind_some]
    unfold FC
    rw [if_pos rfl]
    by_cases he : d2 = 0
    · rw [if_pos he, he]; rfl
    · rw [if_neg he, show (d2 != 0) = true from bne_iff_ne.2 he]; rfl
  · rw [show (d != 0) = true from bne_iff_ne.2 hd, if_pos rfl, right_f, Option.bind_some]
    by_cases he : d2 = 0
    · rw [he, show (!((0 : Int) != 0)) = true from rfl, frac_Cmp.j0, if_pos rfl, right_f, Option.bind_some, rank_f, Option.bind_some, right_f, Option.bind_some, rank_f, Option.bind_some, compareI_f, Option.bind_some]
      unfold FC
      rw [if_neg hd, if_pos rfl, show (d != 0) = true from bne_iff_ne.2 hd]; rfl
    · rw [show (!(d2 != 0)) = false by rw [show (d2 != 0) = true from bne_iff_ne.2 he]; rfl]
      exact fcmp_j k h0 h1 l0 l1 e0 e1 g0 g1 m0 m1 f0 f1 hd he
theorem dec_one {u : Nat} (h : u < 10) : Lib.decDigits u = [UInt8.ofNat (48 + u)] := by
  rw [Lib.decDigits, dif_pos h]
theorem dec_more {u : Nat} (h : ¬ u < 10) : Lib.decDigits u = Lib.decDigits (u / 10) ++ [UInt8.ofNat (48 + u % 10)] := by
  rw [Lib.decDigits, dif_neg h]
theorem dec_len (d : Nat) : ∀ u : Nat, u < 10 ^ (d + 1) → (Lib.decDigits u).length ≤ d + 1 := by
  induction d with
  | zero => intro u h; rw [dec_one (by simpa using h)]; simp
  | succ d ih =>
    intro u h
    by_cases h1 : u < 10
    · rw [dec_one h1]; simp
    · rw [dec_more h1, List.length_append, List.length_singleton]
      have := ih (u / 10) (by rw [Nat.pow_succ] at h; omega)
      omega
theorem itoa_len {n : Int} (h0 : -9223372036854775808 ≤ n) (h1 : n ≤ 9223372036854775807) : (Lib.itoa n).length ≤ 30 := by
  unfold Lib.itoa
  split
  · have := dec_len 19 n.natAbs (by omega)
    rw [List.length_cons]; omega
  · have := dec_len 19 n.toNat (by omega)
    omega
theorem fmt_f {n : Int} (h0 : -9223372036854775808 ≤ n) (h1 : n ≤ 9223372036854775807) : strconv_FormatInt_23.f n 10 = some ⟨(Lib.itoa n).toArray⟩ := by
  unfold strconv_FormatInt_23.f
  rw [if_pos ⟨rfl, h0, h1⟩]
theorem text_f {n d : Int} (h0 : -9223372036854775808 ≤ n) (h1 : n ≤ 9223372036854775807) (e1 : d ≤ 9223372036854775807) :
    frac_Text.f n d = some (if d < 1 then ⟨#[110, 111, 110, 101]⟩ else (⟨(Lib.itoa n).toArray⟩ ++ ⟨#[47]⟩) ++ ⟨(Lib.itoa d).toArray⟩) := by
  unfold frac_Text.f
  by_cases hd : d < 1
  · rw [if_pos hd, if_pos hd]
  · have a := itoa_len h0 h1
    have b := itoa_len (n := d) (by omega) e1
    have z1 : (⟨(Lib.itoa n).toArray⟩ : ByteArray).size = (Lib.itoa n).length := rfl
    have z2 : (⟨(Lib.itoa d).toArray⟩ : ByteArray).size = (Lib.itoa d).length := rfl
    rw [if_neg hd, if_neg hd, fmt_f h0 h1, Option.bind_some, if_pos (by omega), fmt_f (by omega) e1, Option.bind_some, if_pos (by rw [ByteArray.size_append, z1, z2]; show (Lib.itoa n).length + 1 + _ ≤ _; omega)]
theorem of_f (n d : Int) : frac_Of.f n d = some (0, n, d) := rfl
theorem fixed_f (k : Nat) (hk : 1 ≤ k) : hornbeamlaw05_fixed.f k = some true := by
  have i1 : Lib.itoa (-1) = [45, 49] := by
    unfold Lib.itoa
    rw [if_pos (by decide), show (-1 : Int).natAbs = 1 from rfl, dec_one (by decide)]; rfl
  have i4 : Lib.itoa 4 = [52] := by
    unfold Lib.itoa
    rw [if_neg (by decide), show (4 : Int).toNat = 4 from rfl, dec_one (by decide)]; rfl
  unfold hornbeamlaw05_fixed.f
  rw [of_f, Option.bind_some]
  dsimp only
  rw [fcmp_f k hk (by omega) (by omega) (by omega) (by omega) (by omega) (by omega) (by omega) (by omega) (by omega) (by omega) (by omega) (by omega), Option.bind_some, if_pos (by decide), Option.bind_some, of_f, Option.bind_some]
  dsimp only
  rw [fcmp_f k hk (by omega) (by omega) (by omega) (by omega) (by omega) (by omega) (by omega) (by omega) (by omega) (by omega) (by omega) (by omega), Option.bind_some, if_pos (by decide), text_f (by omega) (by omega) (by omega), Option.bind_some, i1, i4, if_neg (by decide)]
  decide +kernel
theorem wf_u32 {a : Int} (h : (Lit.int .u32 a).wf = true) : 0 ≤ a ∧ a < 4294967296 := by
  have h1 : IntKind.u32.min = 0 := rfl
  have h2 : IntKind.u32.max = 4294967295 := rfl
  simp only [Lit.wf, Bool.and_eq_true, decide_eq_true_eq, h1, h2] at h
  omega
theorem sign_f (a : Int) : frac_sign.f a = some (cmpI a 0) := by
  unfold frac_sign.f cmp_Compare_int64.f cmp_isNaN_int64.f cmpI
  rw [Option.bind_some, Option.bind_some, if_neg (by simp), if_neg (by simp)]
  split
  · rfl
  · split <;> rfl
theorem size_f {n d : Int} (n0 : -4294967296 ≤ n) (n1 : n ≤ 0) (d0 : 0 ≤ d) (d1 : d < 4294967296) : frac_size.f n d = some (0, -n, d) := by
  unfold frac_size.f
  rw [uwrap_id (n := d) (by omega) (by omega)]
  by_cases h : n < 0
  · rw [if_pos h, wrap_u64, wrap_u64, of_f, Option.bind_some]
    dsimp only
    rw [Option.some.injEq, Prod.mk.injEq, Prod.mk.injEq]
    omega
  · rw [if_neg h, uwrap_id (by omega) (by omega), of_f, Option.bind_some]
    dsimp only
    rw [Option.some.injEq, Prod.mk.injEq, Prod.mk.injEq]
    omega
theorem cmpI_one (x y : Int) (h : y < x) : cmpI x y = 1 := by unfold cmpI; rw [if_neg (by omega), if_pos h]
theorem cmpI_neg (x y : Int) (h : x < y) : cmpI x y = -1 := by unfold cmpI; rw [if_pos h]
theorem FC_pos (n m d e : Int) (hd : 0 < d) (he : 0 < e) : FC n d m e = cmpI (n * e) (m * d) := by unfold FC; rw [if_neg (by omega), if_neg (by omega)]
theorem signed_f {n m d : Int} (n0 : -4294967296 ≤ n) (n1 : n ≤ 0) (m0 : -4294967296 ≤ m) (m1 : m ≤ 0) (d0 : 1 ≤ d) (d1 : d < 4294967296) (k : Nat) (hk : 2 ≤ k) : frac_CmpSigned.f k n d m d = some (cmpI n m) := by
  obtain ⟨k, rfl⟩ : ∃ q, k = q + 1 := ⟨k - 1, by omega⟩
  unfold frac_CmpSigned.f
  rw [if_neg (by omega), decide_eq_false (by omega), frac_CmpSigned.j0, if_neg (by decide), sign_f, Option.bind_some, sign_f, Option.bind_some]
  by_cases hn : n = 0
  · subst hn
    by_cases hm : m = 0
    · subst hm
      rw [if_pos rfl, Option.bind_some, size_f (by omega) (by omega) (by omega) (by omega), Option.bind_some, Option.bind_some]
      dsimp only
      rw [fcmp_f k (by omega) (by omega) (by omega) (by omega) (by omega) (by omega) (by omega) (by omega) (by omega) (by omega) (by omega) (by omega) (by omega), Option.bind_some, FC_refl]
      decide +kernel
    · rw [if_neg (by rw [cmpI_neg m 0 (by omega)]; decide), Option.bind_some, Option.bind_some, compareI_f, Option.bind_some, cmpI_neg m 0 (by omega), cmpI_one 0 m (by omega)]
      rfl
  · by_cases hm : m = 0
    · subst hm
      rw [if_neg (by rw [cmpI_neg n 0 (by omega)]; decide), Option.bind_some, Option.bind_some, compareI_f, Option.bind_some, cmpI_neg n 0 (by omega)]
      rfl
    · rw [cmpI_neg n 0 (by omega), cmpI_neg m 0 (by omega), if_pos rfl, Option.bind_some, size_f (by omega) (by omega) (by omega) (by omega), Option.bind_some, size_f (by omega) (by omega) (by omega) (by omega), Option.bind_some]
      dsimp only
      rw [fcmp_f k (by omega) (by omega) (by omega) (by omega) (by omega) (by omega) (by omega) (by omega) (by omega) (by omega) (by omega) (by omega) (by omega), Option.bind_some, FC_pos _ _ _ _ (by omega) (by omega), Int.zero_mul, Int.zero_add, Int.zero_add]
      have e : cmpI (-n * d) (-m * d) = cmpI m n := by
        rcases cmpI_cases m n with ⟨h, g⟩ | ⟨h, g⟩ | ⟨h, g⟩
        · rw [h]; exact cmpI_neg _ _ (Int.mul_lt_mul_of_pos_right (by omega) (by omega))
        · rw [g]; unfold cmpI; rw [if_neg (by omega), if_neg (by omega), if_neg (by omega), if_neg (by omega)]
        · rw [h]; exact cmpI_one _ _ (Int.mul_lt_mul_of_pos_right (by omega) (by omega))
      rw [e, cmpI_anti m n]
      congr 1
      rcases cmpI_cases m n with ⟨h, g⟩ | ⟨h, g⟩ | ⟨h, g⟩ <;> rw [h] <;> decide +kernel
end FracSame0
open FracSame0
theorem FracSame : hornbeamlaw05_FracSame.Pure := by
  intro a d b ha hd hb
  have ha := wf_u32 ha; have hd := wf_u32 hd; have hb := wf_u32 hb
  refine ⟨4, ?_⟩
  unfold hornbeamlaw05_FracSame.f
  have t : hornbeamlaw05_FracSame.j0 4 a d b true = some true := by
    rw [hornbeamlaw05_FracSame.j0, if_pos rfl, fixed_f 3 (by omega)]; rfl
  by_cases h0 : d = 0
  · rw [if_pos h0]; exact t
  · rw [if_neg h0]
    by_cases h1 : b = 0
    · rw [h1]; rw [h1] at t; exact t
    · have hab : 0 ≤ a * b ∧ a * b ≤ 4294967295 * 4294967295 := ⟨Int.mul_nonneg ha.1 hb.1, Int.mul_le_mul (by omega) (by omega) hb.1 (by omega)⟩
      have hdb : 0 ≤ d * b ∧ d * b ≤ 4294967295 * 4294967295 := ⟨Int.mul_nonneg hd.1 hb.1, Int.mul_le_mul (by omega) (by omega) hb.1 (by omega)⟩
      have hdb1 : 0 < d * b := Int.mul_pos (by omega) (by omega)
      have w1 : wrap64 a = a := wrap64_id (by omega) (by omega)
      have w2 : wrap64 d = d := wrap64_id (by omega) (by omega)
      have w3 : wrap64 (-a) = -a := wrap64_id (by omega) (by omega)
      have w4 : wrap64 (-a - 1) = -a - 1 := wrap64_id (by omega) (by omega)
      rw [show (b == 0) = false from beq_eq_false_iff_ne.2 h1, hornbeamlaw05_FracSame.j0, if_neg (by decide), w1, w2, w3, w4, uwrap_id (n := a) (by omega) (by omega), uwrap_id (n := d) (by omega) (by omega), uwrap_id (n := b) (by omega) (by omega), uwrap_id (n := a * b) (by omega) (by omega), uwrap_id (n := d * b) (by omega) (by omega), uwrap_id (n := a + 1) (by omega) (by omega),
        of_f, Option.bind_some, of_f, Option.bind_some, fixed_f 3 (by omega), Option.bind_some, if_pos rfl]
      dsimp only
      rw [fcmp_f 3 (by omega) (by omega) (by omega) ha.1 (by omega) hd.1 (by omega) (by omega) (by omega) hab.1 (by omega) hdb.1 (by omega), Option.bind_some, if_pos (by
          rw [FC_pos _ _ _ _ (by omega) hdb1]
          have e : (0 * 18446744073709551616 + a) * (d * b) = (0 * 18446744073709551616 + a * b) * d := by rw [Int.zero_mul, Int.zero_add, Int.zero_add, Int.mul_assoc, Int.mul_comm d b]
          rw [e]; unfold cmpI; rw [if_neg (by omega), if_neg (by omega)]),
        of_f, Option.bind_some]
      dsimp only
      rw [fcmp_f 3 (by omega) (by omega) (by omega) ha.1 (by omega) hd.1 (by omega) (by omega) (by omega) (by omega) (by omega) hd.1 (by omega), Option.bind_some, if_pos (by
          rw [FC_pos _ _ _ _ (by omega) (by omega)]
          exact cmpI_neg _ _ (Int.mul_lt_mul_of_pos_right (by omega) (by omega))),
        signed_f (by omega) (by omega) (by omega) (by omega) (by omega) (by omega) 3 (by omega), Option.bind_some, if_pos (cmpI_one _ _ (by omega)), signed_f (by omega) (by omega) (by omega) (by omega) (by omega) (by omega) 3 (by omega), Option.bind_some, cmpI_neg _ _ (by omega)]
      rfl

end Go.Proofs.YtpbgfmbkjojdeaaDoor.Pure
