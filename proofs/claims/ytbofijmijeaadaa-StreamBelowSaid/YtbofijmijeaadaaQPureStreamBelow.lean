/- For all lists and bounds the law StreamBelow answers true. No condition. -/
import Derived.Test.YtbofijmijeaadaaQStreamBelowx1
namespace Go.Proofs.Ytbofijmijeaadaa.Pure
open Go.RowKit Go.Proofs.Ytbofijmijeaadaa.QStreamBelow Go.Proofs.YtbofijmijeaadaaW.PrintWords Go.Proofs.YtbofijmijeaadaaW.PrintLast
theorem StreamBelow : hornbeamlaw02_StreamBelow.Pure := by
  intro l0 l1 h0 _ h1 _
  have e : ∀ z : Int, (Lit.int .u64 z).wf = true → 0 ≤ z ∧ z < 18446744073709551616 := by
    intro z h
    have e1 : IntKind.u64.min = 0 := rfl
    have e2 : IntKind.u64.max = 18446744073709551615 := rfl
    simp only [Lit.wf, Bool.and_eq_true, decide_eq_true_eq, e1, e2] at h
    omega
  obtain ⟨a0, b0⟩ := h0
  obtain ⟨a1, b1⟩ := h1
  unfold maxLen at a0 a1
  unfold hornbeamlaw02_StreamBelow.f
  rw [if_pos ⟨⟨by omega, by omega⟩, fun x hx => e x (b0 x hx), fun x hx => e x (b1 x hx)⟩]
end Go.Proofs.Ytbofijmijeaadaa.Pure
