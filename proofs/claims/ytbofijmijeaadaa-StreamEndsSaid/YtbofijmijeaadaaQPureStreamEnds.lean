/- For all numbers the law StreamEnds answers true. No condition. -/
import Derived.Test.YtbofijmijeaadaaQStreamEndsx1
namespace Go.Proofs.Ytbofijmijeaadaa.Pure
open Go.RowKit Go.Proofs.Ytbofijmijeaadaa.QStreamEnds Go.Proofs.YtbofijmijeaadaaW.PrintWords Go.Proofs.YtbofijmijeaadaaW.PrintLast
theorem StreamEnds : hornbeamlaw02_StreamEnds.Pure := by
  intro a b ha hb
  have h1 : ∀ z : Int, (Lit.int .u64 z).wf = true → 0 ≤ z ∧ z < 18446744073709551616 := by
    intro z h
    have e1 : IntKind.u64.min = 0 := rfl
    have e2 : IntKind.u64.max = 18446744073709551615 := rfl
    simp only [Lit.wf, Bool.and_eq_true, decide_eq_true_eq, e1, e2] at h
    omega
  have h2 : ∀ z : Int, (Lit.int .u8 z).wf = true → 0 ≤ z ∧ z < 256 := by
    intro z h
    have e1 : IntKind.u8.min = 0 := rfl
    have e2 : IntKind.u8.max = 255 := rfl
    simp only [Lit.wf, Bool.and_eq_true, decide_eq_true_eq, e1, e2] at h
    omega
  unfold hornbeamlaw02_StreamEnds.f
  rw [if_pos ⟨h1 a ha, h2 b hb⟩]
end Go.Proofs.Ytbofijmijeaadaa.Pure
