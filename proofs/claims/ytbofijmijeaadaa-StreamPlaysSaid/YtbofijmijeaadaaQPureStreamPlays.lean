/- For all words the law StreamPlays answers true. No condition. -/
import Derived.Test.YtbofijmijeaadaaQStreamPlaysx2
namespace Go.Proofs.Ytbofijmijeaadaa.Pure
open Go.RowKit Go.Proofs.Ytbofijmijeaadaa.QStreamPlays Go.Proofs.YtbofijmijeaadaaW.PrintWords Go.Proofs.YtbofijmijeaadaaW.PrintLast
theorem StreamPlays (x0 x1 x2 x3 a1 a2 : Int) (b0 : (Lit.int .u64 x0).wf = true) (b1 : (Lit.int .u64 x1).wf = true) (b2 : (Lit.int .u64 x2).wf = true) (b3 : (Lit.int .u64 x3).wf = true) (w1 : (Lit.int .u64 a1).wf = true) (w2 : (Lit.int .u8 a2).wf = true) : hornbeamlaw02_StreamPlays.f x0 x1 x2 x3 a1 a2 = some true := by
  have h1 : ∀ z : Int, (Lit.int .u64 z).wf = true → 0 ≤ z ∧ z < 18446744073709551616 := by
    intro z h
    have e1 : IntKind.u64.min = 0 := rfl
    have e2 : IntKind.u64.max = 18446744073709551615 := rfl
    simp only [Lit.wf, Bool.and_eq_true, decide_eq_true_eq, e1, e2] at h
    omega
  have h2 : ∀ z : Int, (Lit.int .u8 z).wf = true → 0 ≤ z ∧ z < 256 := by
    intro z h
    have e1 : IntKind.u8.min = 0 := rfl
    have e2 : IntKind.u8.max = 255 := rfl
    simp only [Lit.wf, Bool.and_eq_true, decide_eq_true_eq, e1, e2] at h
    omega
  unfold hornbeamlaw02_StreamPlays.f
  rw [if_pos ⟨⟨h1 _ b0, h1 _ b1, h1 _ b2, h1 _ b3⟩, h1 _ w1, h2 _ w2⟩]
end Go.Proofs.Ytbofijmijeaadaa.Pure
