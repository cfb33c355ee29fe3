/- For all numbers the law StreamFair answers true. No condition. -/
import Derived.Test.YtbofijmijeaadaaQStreamFairx1
namespace Go.Proofs.Ytbofijmijeaadaa.Pure
open Go.RowKit Go.Proofs.Ytbofijmijeaadaa.QStreamFair Go.Proofs.YtbofijmijeaadaaW.PrintWords Go.Proofs.YtbofijmijeaadaaW.PrintLast
theorem StreamFair : hornbeamlaw02_StreamFair.Pure := by
  intro a b c ha hb hc
  have h1 : ∀ z : Int, (Lit.int .u64 z).wf = true → 0 ≤ z ∧ z < 18446744073709551616 := by
    intro z h
    have e1 : IntKind.u64.min = 0 := rfl
    have e2 : IntKind.u64.max = 18446744073709551615 := rfl
    simp only [Lit.wf, Bool.and_eq_true, decide_eq_true_eq, e1, e2] at h
    omega
  unfold hornbeamlaw02_StreamFair.f
  rw [if_pos ⟨h1 a ha, h1 b hb, h1 c hc⟩]
end Go.Proofs.Ytbofijmijeaadaa.Pure
