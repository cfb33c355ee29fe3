/- For every three fractions the law FracChains answers true. No condition. -/
import Derived.Test.YtpbgfmbkjojdeaaDoorQFracChainsx3
import Derived.Test.YtpbgfmbkjojdeaaDoorP64
namespace Go.Proofs.YtpbgfmbkjojdeaaDoor.Pure
open Go.RowKit Go.Proofs.YtpbgfmbkjojdeaaDoor.QFracChains Go.Proofs.YtpbgfmbkjojdeaaDoorW.PrintWords Go.Proofs.YtpbgfmbkjojdeaaDoorW.PrintLast
open Go.Proofs.YtpbgfmbkjojdeaaDoor.P64
set_option linter.unusedVariables false
set_option linter.unusedSimpArgs false
namespace FracChains0
theorem add64_f {a b c : Int} (a0 : 0 ≤ a) (b0 : 0 ≤ b) (c0 : 0 ≤ c) (c1 : c ≤ 1) : bits_Add64.f a b c = some ((a + b + c) % 18446744073709551616, (a + b + c) / 18446744073709551616) := by
  unfold bits_Add64.f
  rw [if_pos ⟨a0, b0, c0, c1⟩]
theorem times_f {h l n : Int} (h0 : 0 ≤ h) (h1 : h < 18446744073709551616) (l0 : 0 ≤ l) (l1 : l < 18446744073709551616) (n0 : 0 ≤ n) (n1 : n < 18446744073709551616) :
    prod_Times.f h l n = some (longD ((h * 18446744073709551616 + l) * n)) := by
  unfold prod_Times.f
  rw [show bits_Mul64.f l n = some (mul64 l n) from rfl, show bits_Mul64.f h n = some (mul64 h n) from rfl, Option.bind_some, Option.bind_some, mul64_eq l0 l1 n0 n1, mul64_eq h0 h1 n0 n1]
  have p1 := mul_bound64 l0 l1 n0 n1
  have p2 := mul_bound64 h0 h1 n0 n1
  have e : (h * 18446744073709551616 + l) * n = (h * n) * 18446744073709551616 + l * n := by rw [Int.add_mul, Int.mul_right_comm]
  rw [e]
  unfold longD
  generalize h * n = q at *
  generalize l * n = p at *
  rw [add64_f (by omega) (by omega) (by omega) (by omega), Option.bind_some, uwrap_id (by omega) (by omega)]
  simp only [Option.some.injEq, Prod.mk.injEq]
  omega
theorem compare_f (a b : Int) : cmp_Compare_uint64.f a b = some (cmpI a b) := by
  unfold cmp_Compare_uint64.f cmp_isNaN_uint64.f cmpI
  rw [Option.bind_some, Option.bind_some, if_neg (by simp), if_neg (by simp)]
  split
  · rfl
  · split <;> rfl
theorem cmplong_f {X Y : Int} (_x0 : 0 ≤ X) (_y0 : 0 ≤ Y) : prod_CmpLong.f (longD X).1 (longD X).2.1 (longD X).2.2 (longD Y).1 (longD Y).2.1 (longD Y).2.2 = some (cmpI X Y) := by
  unfold prod_CmpLong.f longD
  simp only [compare_f]
  unfold cmpI
  have hx := Int.mul_ediv_add_emod X 18446744073709551616
  have hy := Int.mul_ediv_add_emod Y 18446744073709551616
  have hx2 := Int.mul_ediv_add_emod (X / 18446744073709551616) 18446744073709551616
  have hy2 := Int.mul_ediv_add_emod (Y / 18446744073709551616) 18446744073709551616
  have b1 := Int.emod_nonneg X (b := 18446744073709551616) (by decide)
  have b2 := Int.emod_lt_of_pos X (b := 18446744073709551616) (by decide)
  have b3 := Int.emod_nonneg Y (b := 18446744073709551616) (by decide)
  have b4 := Int.emod_lt_of_pos Y (b := 18446744073709551616) (by decide)
  have b5 := Int.emod_nonneg (X / 18446744073709551616) (b := 18446744073709551616) (by decide)
  have b6 := Int.emod_lt_of_pos (X / 18446744073709551616) (b := 18446744073709551616) (by decide)
  have b7 := Int.emod_nonneg (Y / 18446744073709551616) (b := 18446744073709551616) (by decide)
  have b8 := Int.emod_lt_of_pos (Y / 18446744073709551616) (b := 18446744073709551616) (by decide)
  generalize X % 18446744073709551616 = u0 at *
  generalize Y % 18446744073709551616 = v0 at *
  generalize X / 18446744073709551616 % 18446744073709551616 = u1 at *
  generalize Y / 18446744073709551616 % 18446744073709551616 = v1 at *
  generalize X / 18446744073709551616 / 18446744073709551616 = u2 at *
  generalize Y / 18446744073709551616 / 18446744073709551616 = v2 at *
  generalize X / 18446744073709551616 = p at *
  generalize Y / 18446744073709551616 = q at *
  by_cases h2 : u2 = v2
  · rw [if_pos h2]
    by_cases h1 : u1 = v1
    · rw [if_pos h1]
      by_cases h0 : u0 = v0
      · rw [if_pos h0, if_neg (by omega), if_neg (by omega)]
      · rw [if_neg h0]
        rcases Int.lt_or_gt_of_ne h0 with h | h
        · rw [if_pos h, if_pos (by omega)]
        · rw [if_neg (by omega), if_pos h, if_neg (by omega), if_pos (by omega)]
    · rw [if_neg h1]
      rcases Int.lt_or_gt_of_ne h1 with h | h
      · rw [if_pos h, if_pos (by omega)]
      · rw [if_neg (by omega), if_pos h, if_neg (by omega), if_pos (by omega)]
  · rw [if_neg h2]
    rcases Int.lt_or_gt_of_ne h2 with h | h
    · rw [if_pos h, if_pos (by omega)]
    · rw [if_neg (by omega), if_pos h, if_neg (by omega), if_pos (by omega)]
/-- How two fractions stand to one another: their upper numbers n, m, their lower ones d, e. -/
def FC (n d m e : Int) : Int := if d = 0 then (if e = 0 then 0 else -1) else if e = 0 then 1 else cmpI (n * e) (m * d)
theorem cmpI_cases (x y : Int) : (cmpI x y = -1 ∧ x < y) ∨ (cmpI x y = 0 ∧ x = y) ∨ (cmpI x y = 1 ∧ y < x) := by
  unfold cmpI
  by_cases h : x < y
  · rw [if_pos h]; exact .inl ⟨rfl, h⟩
  · rw [if_neg h]
    by_cases h2 : y < x
    · rw [if_pos h2]; exact .inr (.inr ⟨rfl, h2⟩)
    · rw [if_neg h2]; exact .inr (.inl ⟨rfl, by omega⟩)
theorem cmpI_anti (x y : Int) : cmpI y x = -cmpI x y := by
  rcases cmpI_cases x y with ⟨h, g⟩ | ⟨h, g⟩ | ⟨h, g⟩ <;> rcases cmpI_cases y x with ⟨h2, g2⟩ | ⟨h2, g2⟩ | ⟨h2, g2⟩ <;> omega
theorem FC_cases (n d m e : Int) : FC n d m e = -1 ∨ FC n d m e = 0 ∨ FC n d m e = 1 := by
  unfold FC
  split
  · split
    · exact .inr (.inl rfl)
    · exact .inl rfl
  · split
    · exact .inr (.inr rfl)
    · rcases cmpI_cases (n * e) (m * d) with h | h | h
      · exact .inl h.1
      · exact .inr (.inl h.1)
      · exact .inr (.inr h.1)
theorem FC_anti (n d m e : Int) : FC m e n d = -FC n d m e := by
  unfold FC
  by_cases hd : d = 0
  · by_cases he : e = 0
    · rw [if_pos hd, if_pos he, if_pos he, if_pos hd]; rfl
    · rw [if_neg he, if_pos hd, if_pos hd, if_neg he]; rfl
  · by_cases he : e = 0
    · rw [if_pos he, if_neg hd, if_neg hd, if_pos he]
    · rw [if_neg he, if_neg hd, if_neg hd, if_neg he, cmpI_anti]
theorem FC_refl (n d : Int) : FC n d n d = 0 := by
  have := FC_anti n d n d
  omega
theorem FC_le (n d m e : Int) (d0 : 0 ≤ d) (e0 : 0 ≤ e) : FC n d m e ≤ 0 ↔ (d = 0 ∨ (e ≠ 0 ∧ n * e ≤ m * d)) := by
  unfold FC
  by_cases hd : d = 0
  · rw [if_pos hd]
    exact ⟨fun _ => .inl hd, fun _ => by split <;> omega⟩
  · rw [if_neg hd]
    by_cases he : e = 0
    · rw [if_pos he]
      exact ⟨fun h => absurd h (by omega), fun h => by rcases h with h | h <;> omega⟩
    · rw [if_neg he]
      rcases cmpI_cases (n * e) (m * d) with ⟨h, g⟩ | ⟨h, g⟩ | ⟨h, g⟩ <;> rw [h]
      · exact ⟨fun _ => .inr ⟨he, by omega⟩, fun _ => by omega⟩
      · exact ⟨fun _ => .inr ⟨he, by omega⟩, fun _ => by omega⟩
      · exact ⟨fun h => absurd h (by omega), fun h => by rcases h with h | h <;> omega⟩
theorem FC_chain (n d m e p f : Int) (d0 : 0 ≤ d) (e0 : 0 ≤ e) (f0 : 0 ≤ f) (h1 : FC n d m e ≤ 0) (h2 : FC m e p f ≤ 0) : FC n d p f ≤ 0 := by
  rw [FC_le _ _ _ _ d0 e0] at h1
  rw [FC_le _ _ _ _ e0 f0] at h2
  rw [FC_le _ _ _ _ d0 f0]
  rcases h1 with h1 | ⟨h1, g1⟩
  · exact .inl h1
  · rcases h2 with h2 | ⟨h2, g2⟩
    · exact absurd h2 h1
    · refine .inr ⟨h2, ?_⟩
      have a1 : n * e * f ≤ m * d * f := Int.mul_le_mul_of_nonneg_right g1 f0
      have a2 : m * f * d ≤ p * e * d := Int.mul_le_mul_of_nonneg_right g2 d0
      have a3 : m * d * f = m * f * d := by rw [Int.mul_assoc, Int.mul_comm d f, ← Int.mul_assoc]
      have a4 : n * e * f = e * (n * f) := by rw [Int.mul_comm n e, Int.mul_assoc]
      have a5 : p * e * d = e * (p * d) := by rw [Int.mul_comm p e, Int.mul_assoc]
      exact Int.le_of_mul_le_mul_left (a := e) (by rw [← a4, ← a5]; omega) (by omega)
theorem FC_chain2 (n d m e p f : Int) (d0 : 0 ≤ d) (e0 : 0 ≤ e) (f0 : 0 ≤ f) (h1 : 0 ≤ FC n d m e) (h2 : 0 ≤ FC m e p f) : 0 ≤ FC n d p f := by
  have a := FC_anti n d m e; have b := FC_anti m e p f; have c := FC_anti n d p f
  have := FC_chain p f m e n d f0 e0 d0 (by omega) (by omega)
  omega
theorem compareI_f (a b : Int) : cmp_Compare_int.f a b = some (cmpI a b) := by
  unfold cmp_Compare_int.f cmp_isNaN_int.f cmpI
  rw [Option.bind_some, Option.bind_some, if_neg (by simp), if_neg (by simp)]
  split
  · rfl
  · split <;> rfl
theorem right_f (h l d : Int) : frac_Right.f h l d = some (d != 0) := rfl
theorem rank_f (b : Bool) : frac_rank.f b = some (if b = true then 1 else 0) := by unfold frac_rank.f; split <;> rfl
theorem fcmp_j (k : Nat) {h l d h2 l2 d2 : Int} (h0 : 0 ≤ h) (h1 : h < 18446744073709551616) (l0 : 0 ≤ l) (l1 : l < 18446744073709551616) (e0 : 0 ≤ d) (e1 : d < 18446744073709551616)
    (g0 : 0 ≤ h2) (g1 : h2 < 18446744073709551616) (m0 : 0 ≤ l2) (m1 : l2 < 18446744073709551616) (f0 : 0 ≤ d2) (f1 : d2 < 18446744073709551616) (hd : d ≠ 0) (he : d2 ≠ 0) :
    frac_Cmp.j0 (k + 1) false h l d h2 l2 d2 = some (FC (h * 18446744073709551616 + l) d (h2 * 18446744073709551616 + l2) d2) := by
  rw [frac_Cmp.j0, if_neg (by decide), times_f h0 h1 l0 l1 f0 f1, Option.bind_some, times_f g0 g1 m0 m1 e0 e1, Option.bind_some, cmplong_f (Int.mul_nonneg (by omega) f0) (Int.mul_nonneg (by omega) e0), Option.bind_some]
  unfold FC
  rw [if_neg hd, if_neg he]
theorem fcmp_f (k : Nat) (hk : 1 ≤ k) {h l d h2 l2 d2 : Int} (h0 : 0 ≤ h) (h1 : h < 18446744073709551616) (l0 : 0 ≤ l) (l1 : l < 18446744073709551616) (e0 : 0 ≤ d) (e1 : d < 18446744073709551616)
    (g0 : 0 ≤ h2) (g1 : h2 < 18446744073709551616) (m0 : 0 ≤ l2) (m1 : l2 < 18446744073709551616) (f0 : 0 ≤ d2) (f1 : d2 < 18446744073709551616) :
    frac_Cmp.f k h l d h2 l2 d2 = some (FC (h * 18446744073709551616 + l) d (h2 * 18446744073709551616 + l2) d2) := by
  obtain ⟨k, rfl⟩ : ∃ q, k = q + 1 := ⟨k - 1, by omega⟩
  unfold frac_Cmp.f
  rw [right_f, Option.bind_some]
  by_cases hd : d = 0
  · rw [hd, if_neg (by decide), frac_Cmp.j0, if_pos rfl, right_f, Option.bind_some, rank_f, Option.bind_some, right_f, Option.bind_some, rank_f, Option.bind_some, compareI_f, Option.bind_some]
    unfold FC
    rw [if_pos rfl]
    by_cases he : d2 = 0
    · rw [if_pos he, he]; rfl
    · rw [if_neg he, show (d2 != 0) = true from bne_iff_ne.2 he]; rfl
  · rw [show (d != 0) = true from bne_iff_ne.2 hd, if_pos rfl, right_f, Option.bind_some]
    by_cases he : d2 = 0
    · rw [he, show (!((0 : Int) != 0)) = true from rfl, frac_Cmp.j0, if_pos rfl, right_f, Option.bind_some, rank_f, Option.bind_some, right_f, Option.bind_some, rank_f, Option.bind_some, compareI_f, Option.bind_some]
      unfold FC
      rw [if_neg hd, if_pos rfl, show (d != 0) = true from bne_iff_ne.2 hd]; rfl
    · rw [show (!(d2 != 0)) = false by rw [show (d2 != 0) = true from bne_iff_ne.2 he]; rfl]
      exact fcmp_j k h0 h1 l0 l1 e0 e1 g0 g1 m0 m1 f0 f1 hd he
theorem dec_one {u : Nat} (h : u < 10) : Lib.decDigits u = [UInt8.ofNat (48 + u)] := by
  rw [Lib.decDigits, dif_pos h]
theorem dec_more {u : Nat} (h : ¬ u < 10) : Lib.decDigits u = Lib.decDigits (u / 10) ++ [UInt8.ofNat (48 + u % 10)] := by
  rw [Lib.decDigits, dif_neg h]
theorem dec_len (d : Nat) : ∀ u : Nat, u < 10 ^ (d + 1) → (Lib.decDigits u).length ≤ d + 1 := by
  induction d with
  | zero => intro u h; rw [dec_one (by simpa using h)]; simp
  | succ d ih =>
    intro u h
    by_cases h1 : u < 10
    · rw [dec_one h1]; simp
    · rw [dec_more h1, List.length_append, List.length_singleton]
      have := ih (u / 10) (by rw [Nat.pow_succ] at h; omega)
      omega
theorem itoa_len {n : Int} (h0 : -9223372036854775808 ≤ n) (h1 : n ≤ 9223372036854775807) : (Lib.itoa n).length ≤ 30 := by
  unfold Lib.itoa
  split
  · have := dec_len 19 n.natAbs (by omega)
    rw [List.length_cons]; omega
  · have := dec_len 19 n.toNat (by omega)
    omega
theorem fmt_f {n : Int} (h0 : -9223372036854775808 ≤ n) (h1 : n ≤ 9223372036854775807) : strconv_FormatInt_23.f n 10 = some ⟨(Lib.itoa n).toArray⟩ := by
  unfold strconv_FormatInt_23.f
  rw [if_pos ⟨rfl, h0, h1⟩]
theorem text_f {n d : Int} (h0 : -9223372036854775808 ≤ n) (h1 : n ≤ 9223372036854775807) (e1 : d ≤ 9223372036854775807) :
    frac_Text.f n d = some (if d < 1 then ⟨#[110, 111, 110, 101]⟩ else (⟨(Lib.itoa n).toArray⟩ ++ ⟨#[47]⟩) ++ ⟨(Lib.itoa d).toArray⟩) := by
  unfold frac_Text.f
  by_cases hd : d < 1
  · rw [if_pos hd, if_pos hd]
  · have a := itoa_len h0 h1
    have b := itoa_len (n := d) (by omega) e1
    have z1 : (⟨(Lib.itoa n).toArray⟩ : ByteArray).size = (Lib.itoa n).length := rfl
    have z2 : (⟨(Lib.itoa d).toArray⟩ : ByteArray).size = (Lib.itoa d).length := rfl
    rw [if_neg hd, if_neg hd, fmt_f h0 h1, Option.bind_some, if_pos (by omega), fmt_f (by omega) e1, Option.bind_some, if_pos (by rw [ByteArray.size_append, z1, z2]; show (Lib.itoa n).length + 1 + _ ≤ _; omega)]
theorem of_f (n d : Int) : frac_Of.f n d = some (0, n, d) := rfl
theorem fixed_f (k : Nat) (hk : 1 ≤ k) : hornbeamlaw05_fixed.f k = some true := by
  have i1 : Lib.itoa (-1) = [45, 49] := by
    unfold Lib.itoa
    rw [if_pos (by decide), show (-1 : Int).natAbs = 1 from rfl, dec_one (by decide)]; rfl
  have i4 : Lib.itoa 4 = [52] := by
    unfold Lib.itoa
    rw [if_neg (by decide), show (4 : Int).toNat = 4 from rfl, dec_one (by decide)]; rfl
  unfold hornbeamlaw05_fixed.f
  rw [of_f, Option.bind_some]
  dsimp only
  rw [fcmp_f k hk (by omega) (by omega) (by omega) (by omega) (by omega) (by omega) (by omega) (by omega) (by omega) (by omega) (by omega) (by omega), Option.bind_some, if_pos (by decide), Option.bind_some, of_f, Option.bind_some]
  dsimp only
  rw [fcmp_f k hk (by omega) (by omega) (by omega) (by omega) (by omega) (by omega) (by omega) (by omega) (by omega) (by omega) (by omega) (by omega), Option.bind_some, if_pos (by decide), text_f (by omega) (by omega) (by omega), Option.bind_some, i1, i4, if_neg (by decide)]
  decide +kernel
end FracChains0
open FracChains0
theorem FracChains : hornbeamlaw05_FracChains.Pure := by
  intro a0 a1 a2 b0 b1 b2 c0 c1 c2 p1 p2 p3 p4 p5 p6 p7 p8 p9
  have p1 := wf_u64 p1; have p2 := wf_u64 p2; have p3 := wf_u64 p3; have p4 := wf_u64 p4; have p5 := wf_u64 p5; have p6 := wf_u64 p6; have p7 := wf_u64 p7; have p8 := wf_u64 p8; have p9 := wf_u64 p9
  refine ⟨1, ?_⟩
  unfold hornbeamlaw05_FracChains.f
  rw [fcmp_f 1 (by omega) p1.1 p1.2 p2.1 p2.2 p3.1 p3.2 p4.1 p4.2 p5.1 p5.2 p6.1 p6.2, fcmp_f 1 (by omega) p4.1 p4.2 p5.1 p5.2 p6.1 p6.2 p7.1 p7.2 p8.1 p8.2 p9.1 p9.2, fcmp_f 1 (by omega) p1.1 p1.2 p2.1 p2.2 p3.1 p3.2 p7.1 p7.2 p8.1 p8.2 p9.1 p9.2,
    fcmp_f 1 (by omega) p4.1 p4.2 p5.1 p5.2 p6.1 p6.2 p1.1 p1.2 p2.1 p2.2 p3.1 p3.2, fcmp_f 1 (by omega) p1.1 p1.2 p2.1 p2.2 p3.1 p3.2 p1.1 p1.2 p2.1 p2.2 p3.1 p3.2, fixed_f 1 (by omega)]
  have q1 := FC_chain (a0 * 18446744073709551616 + a1) a2 (b0 * 18446744073709551616 + b1) b2 (c0 * 18446744073709551616 + c1) c2 p3.1 p6.1 p9.1
  have q2 := FC_chain2 (a0 * 18446744073709551616 + a1) a2 (b0 * 18446744073709551616 + b1) b2 (c0 * 18446744073709551616 + c1) c2 p3.1 p6.1 p9.1
  have h1 := FC_cases (a0 * 18446744073709551616 + a1) a2 (b0 * 18446744073709551616 + b1) b2
  have h2 := FC_cases (b0 * 18446744073709551616 + b1) b2 (c0 * 18446744073709551616 + c1) c2
  have h3 := FC_cases (a0 * 18446744073709551616 + a1) a2 (c0 * 18446744073709551616 + c1) c2
  rw [FC_anti (a0 * 18446744073709551616 + a1) a2 (b0 * 18446744073709551616 + b1) b2, FC_refl]
  generalize FC (a0 * 18446744073709551616 + a1) a2 (b0 * 18446744073709551616 + b1) b2 = X at *
  generalize FC (b0 * 18446744073709551616 + b1) b2 (c0 * 18446744073709551616 + c1) c2 = Y at *
  generalize FC (a0 * 18446744073709551616 + a1) a2 (c0 * 18446744073709551616 + c1) c2 = Z at *
  clear p1 p2 p3 p4 p5 p6 p7 p8 p9
  rcases h1 with rfl | rfl | rfl <;> rcases h2 with rfl | rfl | rfl <;> rcases h3 with rfl | rfl | rfl <;> first
    | (exfalso; omega)
    | decide +kernel

end Go.Proofs.YtpbgfmbkjojdeaaDoor.Pure
