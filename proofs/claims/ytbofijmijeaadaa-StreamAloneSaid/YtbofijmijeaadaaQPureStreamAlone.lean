/- For all numbers and every order the law StreamAlone answers true. No condition. -/
import Derived.Test.YtbofijmijeaadaaQStreamAlonex1
namespace Go.Proofs.Ytbofijmijeaadaa.Pure
open Go.RowKit Go.Proofs.Ytbofijmijeaadaa.QStreamAlone Go.Proofs.YtbofijmijeaadaaW.PrintWords Go.Proofs.YtbofijmijeaadaaW.PrintLast
theorem StreamAlone : hornbeamlaw02_StreamAlone.Pure := by
  intro a b l _ _ h
  have h1 := h.1
  unfold maxLen at h1
  unfold hornbeamlaw02_StreamAlone.f
  rw [if_pos (by omega)]
end Go.Proofs.Ytbofijmijeaadaa.Pure
