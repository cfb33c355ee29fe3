-- Written by a program of this session (wip/tools/mkprint.py over the kit's print); Lean checks it.
import Derived.Test.YtglicbpnmehloaaQProdWidesx0
namespace Go.Proofs.Ytglicbpnmehloaa.QProdWides
open Go.RowKit Go.Proofs.YtglicbpnmehloaaW.PrintWords Go.Proofs.YtglicbpnmehloaaW.PrintLast Go.Proofs.YtglicbpnmehloaaW.PrintMore
attribute [local go_sem] max2_int min2_int max_two min_two max_three min_three max_four min_four   -- for this text's walks alone
set_option linter.unusedVariables false
set_option linter.unusedSimpArgs false

theorem partB49 (xs : Array Value) (i : Nat) (v : Value) (w : World) (h : xs[i]? = some v) : (part 26 xs i).run Try.prog w = .ok v w := by
  have hs : ∀ w, (sizeOf 26).run Try.prog w = .ok 1 w := fun _ => by kernel_rfl
  unfold part
  simp [hs, h]
set_option maxRecDepth 100000 in
theorem eqA49 (d : Nat) (w : World) (x0 x1 x2 y0 y1 y2 : Int) :
    (Op.equalIn (d + 2) 49 (.agg #[.int .u64 x0, .int .u64 x1, .int .u64 x2]) (.agg #[.int .u64 y0, .int .u64 y1, .int .u64 y2])).run Try.prog w = .ok (x0 == y0 && (x1 == y1 && x2 == y2)) w := by
  have hu49 := Try.underlying49
  have hu26 := Try.underlying26
  have hs : ∀ w, (sizeOf 26).run Try.prog w = .ok 1 w := fun _ => by kernel_rfl
  rw [Op.equalIn]
  simp [run_underlying hu49, hs, List.range', partB49, run_equalIn_int w d 26 .u64 .u64 _ _ hu26]
  by_cases h0 : x0 = y0
  · by_cases h1 : x1 = y1
    · by_cases h2 : x2 = y2 <;> simp [h0, h1, h2]
    · simp [h0, h1]
  · simp [h0]

end Go.Proofs.Ytglicbpnmehloaa.QProdWides
