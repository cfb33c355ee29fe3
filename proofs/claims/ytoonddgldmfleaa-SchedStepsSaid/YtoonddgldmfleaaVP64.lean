/- Plain lemmas on 64-bit numbers as Int: wraps, a product of two words, a quotient that is rounded down. No condition. -/
import Derived.Laws.Bits64b
import Derived.RowKit
namespace Go.Proofs.Ytoonddgldmfleaa.P64
open Go.RowKit

theorem wrap64_id {n : Int} (h0 : -9223372036854775808 ≤ n) (h1 : n ≤ 9223372036854775807) : wrap64 n = n := by
  unfold wrap64; omega
end Go.Proofs.Ytoonddgldmfleaa.P64
