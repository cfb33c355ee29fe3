/- Plain lemmas on 64-bit numbers as Int: wraps, a product of two words, a quotient that is rounded down. No condition. -/
import Derived.Laws.Bits64b
import Derived.RowKit
namespace Go.Proofs.Ytancajnbjmcamaa.P64
open Go.RowKit

theorem wrap_u64 (n : Int) : IntKind.u64.wrap n = n % 18446744073709551616 := by
  simp [IntKind.wrap, IntKind.signed, IntKind.bits]
theorem wf_i64 {a : Int} (h : (Lit.int .i64 a).wf = true) : -9223372036854775808 ≤ a ∧ a ≤ 9223372036854775807 := by
  have h1 : IntKind.i64.min = -9223372036854775808 := rfl
  have h2 : IntKind.i64.max = 9223372036854775807 := rfl
  simp only [Lit.wf, Bool.and_eq_true, decide_eq_true_eq, h1, h2] at h
  exact h
theorem wrap64_id {n : Int} (h0 : -9223372036854775808 ≤ n) (h1 : n ≤ 9223372036854775807) : wrap64 n = n := by
  unfold wrap64; omega
theorem uwrap_id {n : Int} (h0 : 0 ≤ n) (h1 : n < 18446744073709551616) : IntKind.u64.wrap n = n := by
  rw [wrap_u64]; omega
theorem and_low {a : Int} (h0 : 0 ≤ a) (h1 : a < 18446744073709551616) : Go.bits .and .u64 a 4294967295 = a % 4294967296 := by
  obtain ⟨n, rfl⟩ := Int.eq_ofNat_of_zero_le h0
  have := bits_and_u64_nat n 4294967295 (by omega) (by omega)
  rw [show ((4294967295 : Nat) : Int) = 4294967295 from rfl] at this
  rw [this, show (4294967295 : Nat) = 2 ^ 32 - 1 from rfl, Nat.and_two_pow_sub_one_eq_mod]
  rfl

/-- The two words of a product, as math/bits reckons them. -/
def mul64 (a0 a1 : Int) : Int × Int := (IntKind.u64.wrap ((IntKind.u64.wrap ((IntKind.u64.wrap ((a0 / 4294967296) * (a1 / 4294967296))) + ((IntKind.u64.wrap ((IntKind.u64.wrap ((a0 / 4294967296) * (Go.bits .and .u64 a1 4294967295))) + ((IntKind.u64.wrap ((Go.bits .and .u64 a0 4294967295) * (Go.bits .and .u64 a1 4294967295))) / 4294967296))) / 4294967296))) + ((IntKind.u64.wrap ((Go.bits .and .u64 (IntKind.u64.wrap ((IntKind.u64.wrap ((a0 / 4294967296) * (Go.bits .and .u64 a1 4294967295))) + ((IntKind.u64.wrap ((Go.bits .and .u64 a0 4294967295) * (Go.bits .and .u64 a1 4294967295))) / 4294967296))) 4294967295) + (IntKind.u64.wrap ((Go.bits .and .u64 a0 4294967295) * (a1 / 4294967296))))) / 4294967296)), IntKind.u64.wrap (a0 * a1))
theorem mul_bound {a b : Int} (a0 : 0 ≤ a) (a1 : a < 4294967296) (b0 : 0 ≤ b) (b1 : b < 4294967296) : 0 ≤ a * b ∧ a * b ≤ 18446744065119617025 := by
  refine ⟨Int.mul_nonneg a0 b0, ?_⟩
  have : a * b ≤ 4294967295 * 4294967295 := Int.mul_le_mul (by omega) (by omega) b0 (by omega)
  omega
theorem mul64_eq {a b : Int} (a0 : 0 ≤ a) (a1 : a < 18446744073709551616) (b0 : 0 ≤ b) (b1 : b < 18446744073709551616) :
    mul64 a b = (a * b / 18446744073709551616, a * b % 18446744073709551616) := by
  unfold mul64
  rw [and_low a0 a1, and_low b0 b1]
  obtain ⟨ah, hah⟩ : ∃ x, x = a / 4294967296 := ⟨_, rfl⟩
  obtain ⟨al, hal⟩ : ∃ x, x = a % 4294967296 := ⟨_, rfl⟩
  obtain ⟨bh, hbh⟩ : ∃ x, x = b / 4294967296 := ⟨_, rfl⟩
  obtain ⟨bl, hbl⟩ : ∃ x, x = b % 4294967296 := ⟨_, rfl⟩
  have hab : a * b = (ah * bh) * 18446744073709551616 + (ah * bl + al * bh) * 4294967296 + al * bl := by
    have ea : a = ah * 4294967296 + al := by omega
    have eb : b = bh * 4294967296 + bl := by omega
    rw [ea, eb, Int.add_mul, Int.mul_add, Int.mul_add, Int.add_mul]
    have e1 : ah * 4294967296 * (bh * 4294967296) = ah * bh * 18446744073709551616 := by
      rw [Int.mul_assoc, Int.mul_left_comm 4294967296 bh 4294967296, ← Int.mul_assoc]; rfl
    have e2 : ah * 4294967296 * bl = ah * bl * 4294967296 := by rw [Int.mul_assoc, Int.mul_comm 4294967296 bl, ← Int.mul_assoc]
    have e3 : al * (bh * 4294967296) = al * bh * 4294967296 := by rw [Int.mul_assoc]
    rw [e1, e2, e3]; omega
  rw [← hah, ← hal, ← hbh, ← hbl]
  have p1 := mul_bound (a := ah) (b := bh) (by omega) (by omega) (by omega) (by omega)
  have p2 := mul_bound (a := ah) (b := bl) (by omega) (by omega) (by omega) (by omega)
  have p3 := mul_bound (a := al) (b := bh) (by omega) (by omega) (by omega) (by omega)
  have p4 := mul_bound (a := al) (b := bl) (by omega) (by omega) (by omega) (by omega)
  rw [hab]
  generalize ah * bh = p at *
  generalize ah * bl = q at *
  generalize al * bh = r at *
  generalize al * bl = s at *
  clear hah hal hbh hbl hab
  rw [uwrap_id (n := s) (by omega) (by omega), uwrap_id (n := q) (by omega) (by omega), uwrap_id (n := p) (by omega) (by omega), uwrap_id (n := r) (by omega) (by omega)]
  rw [uwrap_id (n := q + s / 4294967296) (by omega) (by omega)]
  rw [and_low (by omega) (by omega)]
  rw [uwrap_id (n := p + _) (by omega) (by omega), uwrap_id (n := (q + s / 4294967296) % 4294967296 + r) (by omega) (by omega), wrap_u64, wrap_u64]
  congr 1
  omega

theorem mul_bound64 {a b : Int} (a0 : 0 ≤ a) (a1 : a < 18446744073709551616) (b0 : 0 ≤ b) (b1 : b < 18446744073709551616) : 0 ≤ a * b ∧ a * b ≤ 340282366920938463426481119284349108225 := by
  refine ⟨Int.mul_nonneg a0 b0, ?_⟩
  have : a * b ≤ 18446744073709551615 * 18446744073709551615 := Int.mul_le_mul (by omega) (by omega) b0 (by omega)
  omega
theorem mul_bound16 {a b : Int} (a0 : 0 ≤ a) (a1 : a < 65536) (b0 : 0 ≤ b) (b1 : b < 65536) : 0 ≤ a * b ∧ a * b ≤ 4294836225 := by
  refine ⟨Int.mul_nonneg a0 b0, ?_⟩
  have : a * b ≤ 65535 * 65535 := Int.mul_le_mul (by omega) (by omega) b0 (by omega)
  omega
/-- The three words of a long number. -/
def longD (X : Int) : Int × Int × Int := (X / 18446744073709551616 / 18446744073709551616, X / 18446744073709551616 % 18446744073709551616, X % 18446744073709551616)
/-- A sum of wide numbers: its words and the error's number. -/
def wideSum (S : Int) : Int × Int × Int := if S < 340282366920938463463374607431768211456 then (S / 18446744073709551616, S % 18446744073709551616, 0) else (0, 0, 6)
/-- How two numbers stand to one another. -/
def cmpI (x y : Int) : Int := if x < y then -1 else if y < x then 1 else 0
/-- How far a number is from 0. -/
def sizeI (a0 : Int) : Int := if a0 < 0 then IntKind.u64.wrap (-(IntKind.u64.wrap a0)) else IntKind.u64.wrap a0
theorem sizeI_eq {a : Int} (a0 : -9223372036854775808 ≤ a) (a1 : a ≤ 9223372036854775807) : sizeI a = (a.natAbs : Int) := by
  unfold sizeI
  rw [wrap_u64, wrap_u64]
  split <;> omega
end Go.Proofs.Ytancajnbjmcamaa.P64
