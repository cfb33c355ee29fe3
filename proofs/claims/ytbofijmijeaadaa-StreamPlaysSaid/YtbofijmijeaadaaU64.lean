/- Plain lemmas on 64-bit numbers, as Int and as BitVec 64: sums, products, xor, shifts; the mix and its way back. No condition. -/
import Derived.Laws.Bits64
import Derived.RowKit
namespace Go.Proofs.Ytbofijmijeaadaa.U64
open Go.RowKit

abbrev B := BitVec 64
/-- The number of a word. -/
def U (x : B) : Int := (x.toNat : Int)

theorem U_lt (x : B) : U x < 18446744073709551616 := by
  unfold U; have := x.isLt; omega
theorem U_nonneg (x : B) : 0 ≤ U x := by unfold U; omega
theorem U_inj {x y : B} (h : U x = U y) : x = y := by
  unfold U at h; exact BitVec.eq_of_toNat_eq (by omega)
theorem U_of {a : Int} (h0 : 0 ≤ a) (h1 : a < 18446744073709551616) : ∃ x : B, a = U x :=
  ⟨BitVec.ofNat 64 a.toNat, by unfold U; rw [BitVec.toNat_ofNat]; omega⟩
theorem U_wf {a : Int} (h : (Lit.int .u64 a).wf = true) : ∃ x : B, a = U x := by
  have h1 : IntKind.u64.min = 0 := rfl
  have h2 : IntKind.u64.max = 18446744073709551615 := rfl
  simp only [Lit.wf, Bool.and_eq_true, decide_eq_true_eq, h1, h2] at h
  exact U_of h.1 (by omega)
theorem wrap_u64 (n : Int) : IntKind.u64.wrap n = n % 18446744073709551616 := by
  simp [IntKind.wrap, IntKind.signed, IntKind.bits]
theorem wrap_U (x : B) : IntKind.u64.wrap (U x) = U x := by
  rw [wrap_u64]; have := U_lt x; have := U_nonneg x; omega
theorem wrap_add (x y : B) : IntKind.u64.wrap (U x + U y) = U (x + y) := by
  rw [wrap_u64]; unfold U; rw [BitVec.toNat_add]; omega
theorem wrap_mul (x y : B) : IntKind.u64.wrap (U x * U y) = U (x * y) := by
  rw [wrap_u64]; unfold U; rw [BitVec.toNat_mul, Int.natCast_emod, Int.natCast_mul]; rfl
theorem wrap_sub (x y : B) : IntKind.u64.wrap (U x - U y) = U (x - y) := by
  rw [wrap_u64]; unfold U; rw [BitVec.toNat_sub]; have := x.isLt; have := y.isLt; omega
theorem xor_U (x y : B) : Go.bits .xor .u64 (U x) (U y) = U (x ^^^ y) := by
  unfold U; rw [bits_xor_u64_nat _ _ x.isLt y.isLt, BitVec.toNat_xor]
theorem div_U (x : B) (k : Nat) : U x / (2 ^ k : Nat) = U (x >>> k) := by
  unfold U; rw [BitVec.toNat_ushiftRight, Nat.shiftRight_eq_div_pow]; rfl
theorem eq_U (x y : B) : (U x = U y) = (x = y) := propext ⟨U_inj, fun h => h ▸ rfl⟩
theorem beq_U (x y : B) : (U x == U y) = (x == y) := by
  rw [Bool.eq_iff_iff, beq_iff_eq, beq_iff_eq, eq_U]

def C0 : B := 0x9e3779b97f4a7c15#64
def C1 : B := 0xbf58476d1ce4e5b9#64
def C2 : B := 0x94d049bb133111eb#64
def I1 : B := 0x96de1b173f119089#64
def I2 : B := 0x319642b2d24d8ec3#64
theorem c1 : C1 * I1 = 1#64 := by decide
theorem c2 : C2 * I2 = 1#64 := by decide
theorem UC0 : (11400714819323198485 : Int) = U C0 := by decide
theorem UC1 : (13787848793156543929 : Int) = U C1 := by decide
theorem UC2 : (10723151780598845931 : Int) = U C2 := by decide
theorem unshift2 (k : Nat) (hk : 64 ≤ 3 * k) (x : B) : ((x ^^^ x >>> k) ^^^ (x ^^^ x >>> k) >>> k) ^^^ (x ^^^ x >>> k) >>> (k + k) = x := by
  ext i hi
  simp only [BitVec.getElem_xor, BitVec.getElem_ushiftRight, BitVec.getLsbD_xor, BitVec.getLsbD_ushiftRight]
  have h : x.getLsbD (k + (k + k + i)) = false := BitVec.getLsbD_of_ge _ _ (by omega)
  rw [h, show k + (k + i) = k + k + i by omega]
  cases x[i] <;> cases x.getLsbD (k + i) <;> cases x.getLsbD (k+k+i) <;> rfl
theorem shift2 (k : Nat) (hk : 64 ≤ 3 * k) (x : B) : ((x ^^^ x >>> k) ^^^ x >>> (k + k)) ^^^ ((x ^^^ x >>> k) ^^^ x >>> (k + k)) >>> k = x := by
  ext i hi
  simp only [BitVec.getElem_xor, BitVec.getElem_ushiftRight, BitVec.getLsbD_xor, BitVec.getLsbD_ushiftRight]
  have h : x.getLsbD (k + k + (k + i)) = false := BitVec.getLsbD_of_ge _ _ (by omega)
  rw [h, show k + (k + i) = k + k + i by omega]
  cases x[i] <;> cases x.getLsbD (k + i) <;> cases x.getLsbD (k+k+i) <;> rfl
/-- A number's mix. -/
def mixB (x : B) : B :=
  let z := x + C0
  let z := (z ^^^ z >>> 30) * C1
  let z := (z ^^^ z >>> 27) * C2
  z ^^^ z >>> 31
/-- The way back. -/
def backB (y : B) : B :=
  let z := (y ^^^ y >>> 31 ^^^ y >>> 62) * I2
  let z := (z ^^^ z >>> 27 ^^^ z >>> 54) * I1
  (z ^^^ z >>> 30 ^^^ z >>> 60) - C0
theorem back_mix (x : B) : backB (mixB x) = x := by
  simp only [backB, mixB]
  rw [unshift2 31 (by decide), BitVec.mul_assoc, c2, BitVec.mul_one, unshift2 27 (by decide), BitVec.mul_assoc, c1, BitVec.mul_one, unshift2 30 (by decide), BitVec.add_sub_cancel]
theorem mix_back (x : B) : mixB (backB x) = x := by
  simp only [backB, mixB]
  rw [BitVec.sub_add_cancel, shift2 30 (by decide), BitVec.mul_assoc, BitVec.mul_comm I1, c1, BitVec.mul_one, shift2 27 (by decide), BitVec.mul_assoc, BitVec.mul_comm I2, c2, BitVec.mul_one, shift2 31 (by decide)]
theorem mix_inj {x y : B} (h : mixB x = mixB y) : x = y := by rw [← back_mix x, h, back_mix]
theorem xor_inj {k x y : B} (h : k ^^^ x = k ^^^ y) : x = y := by
  have := congrArg (k ^^^ ·) h
  simpa [← BitVec.xor_assoc] using this

/-- The mix as the Go text reckons it. -/
def mixI (a0 : Int) : Int := (Go.bits .xor .u64 (IntKind.u64.wrap ((Go.bits .xor .u64 (IntKind.u64.wrap ((Go.bits .xor .u64 (IntKind.u64.wrap (a0 + 11400714819323198485)) ((IntKind.u64.wrap (a0 + 11400714819323198485)) / 1073741824)) * 13787848793156543929)) ((IntKind.u64.wrap ((Go.bits .xor .u64 (IntKind.u64.wrap (a0 + 11400714819323198485)) ((IntKind.u64.wrap (a0 + 11400714819323198485)) / 1073741824)) * 13787848793156543929)) / 134217728)) * 10723151780598845931)) ((IntKind.u64.wrap ((Go.bits .xor .u64 (IntKind.u64.wrap ((Go.bits .xor .u64 (IntKind.u64.wrap (a0 + 11400714819323198485)) ((IntKind.u64.wrap (a0 + 11400714819323198485)) / 1073741824)) * 13787848793156543929)) ((IntKind.u64.wrap ((Go.bits .xor .u64 (IntKind.u64.wrap (a0 + 11400714819323198485)) ((IntKind.u64.wrap (a0 + 11400714819323198485)) / 1073741824)) * 13787848793156543929)) / 134217728)) * 10723151780598845931)) / 2147483648))
theorem d30 (x : B) : U x / (1073741824 : Int) = U (x >>> 30) := div_U x 30
theorem d27 (x : B) : U x / (134217728 : Int) = U (x >>> 27) := div_U x 27
theorem d31 (x : B) : U x / (2147483648 : Int) = U (x >>> 31) := div_U x 31
theorem mixI_U (x : B) : mixI (U x) = U (mixB x) := by
  unfold mixI
  simp only [UC0, UC1, UC2, wrap_add, d30, xor_U, wrap_mul, d27, d31]
  rfl
theorem mix_0 : U (mixB 0#64) = 16294208416658607535 := by decide
theorem mix_C0 : U (mixB C0) = 7960286522194355700 := by decide
/-- The fold of numbers. -/
def foldB (k : B) : List B → B
  | [] => k
  | x :: l => foldB (mixB (k ^^^ x)) l
theorem foldB_append (k : B) (l m : List B) : foldB k (l ++ m) = foldB (foldB k l) m := by
  induction l generalizing k with
  | nil => rfl
  | cons x l ih => exact ih _
theorem list_U {l : List Int} (h : ∀ x ∈ l, (Lit.int .u64 x).wf = true) : ∃ m : List B, l = m.map U := by
  induction l with
  | nil => exact ⟨[], rfl⟩
  | cons a l ih =>
    obtain ⟨x, rfl⟩ := U_wf (h a (by simp))
    obtain ⟨m, rfl⟩ := ih fun y hy => h y (by simp [hy])
    exact ⟨x :: m, rfl⟩
end Go.Proofs.Ytbofijmijeaadaa.U64
