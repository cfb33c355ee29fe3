/- Plain lemmas on 64-bit numbers as Int: wraps, a product of two words, a quotient that is rounded down. No condition. -/
import Derived.Laws.Bits64b
import Derived.RowKit
namespace Go.Proofs.Ytoonddgldmfleaa.P64
open Go.RowKit

theorem wf_i64 {a : Int} (h : (Lit.int .i64 a).wf = true) : -9223372036854775808 ≤ a ∧ a ≤ 9223372036854775807 := by
  have h1 : IntKind.i64.min = -9223372036854775808 := rfl
  have h2 : IntKind.i64.max = 9223372036854775807 := rfl
  simp only [Lit.wf, Bool.and_eq_true, decide_eq_true_eq, h1, h2] at h
  exact h
theorem wrap64_id {n : Int} (h0 : -9223372036854775808 ≤ n) (h1 : n ≤ 9223372036854775807) : wrap64 n = n := by
  unfold wrap64; omega
end Go.Proofs.Ytoonddgldmfleaa.P64
