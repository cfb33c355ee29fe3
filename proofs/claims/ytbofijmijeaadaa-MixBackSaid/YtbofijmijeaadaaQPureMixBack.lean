/- For all numbers the law MixBack answers true. No condition. -/
import Derived.Test.YtbofijmijeaadaaQMixBackx1
import Derived.Test.YtbofijmijeaadaaU64
namespace Go.Proofs.Ytbofijmijeaadaa.Pure
open Go.RowKit Go.Proofs.Ytbofijmijeaadaa.QMixBack Go.Proofs.YtbofijmijeaadaaW.PrintWords Go.Proofs.YtbofijmijeaadaaW.PrintLast
open Go.Proofs.Ytbofijmijeaadaa.U64
namespace MixBack0
theorem mix_f (x : B) : mix_Mix.f (U x) = some (U (mixB x)) := congrArg some (mixI_U x)
theorem fixed_f : hornbeamlaw01_fixed.f = some true := by
  have h1 : mix_Mix.f 0 = some 16294208416658607535 := (mix_f 0#64).trans (congrArg some mix_0)
  have h2 : mix_Mix.f 11400714819323198485 = some 7960286522194355700 := by rw [UC0, mix_f, mix_C0]
  unfold hornbeamlaw01_fixed.f
  rw [h1, Option.bind_some, if_pos rfl, h2]; rfl
theorem d62 (x : B) : U x / (4611686018427387904 : Int) = U (x >>> 62) := div_U x 62
theorem d54 (x : B) : U x / (18014398509481984 : Int) = U (x >>> 54) := div_U x 54
theorem d60 (x : B) : U x / (1152921504606846976 : Int) = U (x >>> 60) := div_U x 60
theorem inv2 : mix_inverse.f 10 10723151780598845931 = some (U I2) := by decide +kernel
theorem inv1 : mix_inverse.f 10 13787848793156543929 = some (U I1) := by decide +kernel
theorem back_f (x : B) : mix_Back.f 10 (U x) = some (U (backB x)) := by
  unfold mix_Back.f
  rw [inv2, Option.bind_some, inv1, Option.bind_some]
  unfold mix_Back.u31 mix_Back.u27 mix_Back.u30
  rw [d31, xor_U, d62, xor_U, wrap_mul, d27, xor_U, d54, xor_U, wrap_mul, d30, xor_U, d60, xor_U, UC0, wrap_sub]
  rfl
end MixBack0
open MixBack0
theorem MixBack : hornbeamlaw01_MixBack.Pure := by
  intro a ha
  obtain ⟨x, rfl⟩ := U_wf ha
  refine ⟨10, ?_⟩
  unfold hornbeamlaw01_MixBack.f
  rw [fixed_f, Option.bind_some, if_pos rfl, mix_f, Option.bind_some, back_f, Option.bind_some, back_mix, if_pos rfl, back_f, Option.bind_some, mix_f, Option.bind_some, mix_back, beq_self_eq_true]

end Go.Proofs.Ytbofijmijeaadaa.Pure
