/- For every list of numbers and every number the law MixParts answers true. No condition. -/
import Derived.Test.YtbofijmijeaadaaPMixPartsx1
import Derived.Test.YtbofijmijeaadaaU64
import Derived.Test.YtbofijmijeaadaaBridge
namespace Go.Proofs.Ytbofijmijeaadaa.Pure
open Go.RowKit Go.Proofs.Ytbofijmijeaadaa.PMixParts Go.Proofs.YtbofijmijeaadaaW.PrintWords Go.Proofs.YtbofijmijeaadaaW.PrintLast
open Go.Proofs.Ytbofijmijeaadaa.U64

namespace MixParts0
theorem mix_f (x : B) : mix_Mix.f (U x) = some (U (mixB x)) := congrArg some (mixI_U x)
theorem rd_U (l : List B) (i : Nat) (h : i < l.length) : rd (l.map U) (i : Int) = U l[i] := by
  simp [rd, List.getD, h]
theorem fold_l (l : List B) (hl : l.length ≤ 200) (d : Nat) : ∀ (k : Nat) (z : B) (i : Nat), i + d = l.length → d < k →
    mix_Fold.l0 k (U z) (l.map U) (l.length : Int) (i : Int) = some (U (foldB z (l.drop i))) := by
  induction d with
  | zero =>
    intro k z i h hk
    obtain ⟨k, rfl⟩ : ∃ m, k = m + 1 := ⟨k - 1, by omega⟩
    simp only [mix_Fold.l0]
    rw [if_neg (by omega), List.drop_eq_nil_of_le (by omega)]; rfl
  | succ d ih =>
    intro k z i h hk
    obtain ⟨k, rfl⟩ : ∃ m, k = m + 1 := ⟨k - 1, by omega⟩
    simp only [mix_Fold.l0]
    rw [if_pos (by omega), if_pos (by omega), if_pos (by rw [List.length_map]; omega), rd_U l i (by omega), xor_U, mix_f, Option.bind_some]
    rw [show wrap64 ((i : Int) + 1) = ((i + 1 : Nat) : Int) by unfold wrap64; omega, ih k _ (i + 1) (by omega) (by omega), List.drop_eq_getElem_cons (by omega : i < l.length)]
    rfl
theorem fold_f (l : List B) (hl : l.length ≤ 200) (k : Nat) (hk : 200 < k) : mix_Fold.f k (l.map U) = some (U (foldB 0#64 l)) := by
  have := fold_l l hl l.length k 0#64 0 (by omega) (by omega)
  unfold mix_Fold.f
  rw [List.length_map]
  simpa [U] using this
theorem fixed_f : hornbeamlaw01_fixed.f = some true := by
  have h1 : mix_Mix.f 0 = some 16294208416658607535 := (mix_f 0#64).trans (congrArg some mix_0)
  have h2 : mix_Mix.f 11400714819323198485 = some 7960286522194355700 := by rw [UC0, mix_f, mix_C0]
  unfold hornbeamlaw01_fixed.f
  rw [h1, Option.bind_some, if_pos rfl, h2]; rfl

theorem map_snoc (l : List B) (x : B) : ([] ++ l.map U) ++ [U x] = (l ++ [x]).map U := by simp
theorem snoc_len (l : List B) (x : B) (h : l.length ≤ 100) : (l ++ [x]).length ≤ 200 := by rw [List.length_append, List.length_singleton]; omega
theorem foldB_snoc (l : List B) (x : B) : foldB 0#64 (l ++ [x]) = mixB (foldB 0#64 l ^^^ x) := by rw [foldB_append]; rfl
theorem one_f (k : Nat) (x : B) (hk : 200 < k) : mix_Fold.f k ([U x] : List Int) = some (U (mixB x)) := by
  have := fold_f [x] (by simp) k hk
  have e : foldB 0#64 [x] = mixB x := by show mixB (0#64 ^^^ x) = mixB x; rw [BitVec.zero_xor]
  rw [e] at this
  exact this
theorem nil_f (k : Nat) (hk : 200 < k) : mix_Fold.f k ([] : List Int) = some 0 := fold_f [] (by simp) k hk
theorem law_f (k : Nat) (a : B) (l : List B) (hk : 200 < k) (hl2 : l.length ≤ 100) : hornbeamlaw01_MixParts.f k (l.map U) (U a) = some true := by
  unfold hornbeamlaw01_MixParts.f
  rw [if_neg (by rw [List.length_map]; omega), fixed_f, Option.bind_some, if_pos rfl, Option.bind_some, if_pos (by rw [List.length_map, List.length_nil]; omega), Option.bind_some, if_pos (by rw [List.nil_append, List.length_map]; omega),
    map_snoc, fold_f _ (snoc_len l a hl2) k hk, Option.bind_some, fold_f l (by omega) k hk, Option.bind_some, xor_U, mix_f, Option.bind_some, foldB_snoc, if_pos rfl,
    one_f k a hk, Option.bind_some, mix_f, Option.bind_some, if_pos rfl, nil_f k hk, Option.bind_some, beq_self_eq_true]
theorem law_g (k : Nat) (a : Int) (l : List Int) (h : (l.length : Int) > 100) : hornbeamlaw01_MixParts.f k l a = some true := by
  unfold hornbeamlaw01_MixParts.f
  rw [if_pos h, fixed_f]
  rfl
end MixParts0
open MixParts0
theorem MixParts : hornbeamlaw01_MixParts.Pure := by
  intro l a _ _ hl ha
  obtain ⟨a, rfl⟩ := U_wf ha
  obtain ⟨l, rfl⟩ := list_U hl
  refine ⟨201, ?_⟩
  by_cases h : ((l.map U).length : Int) > 100
  · exact law_g 201 _ _ h
  · exact law_f 201 a l (by omega) (by rw [List.length_map] at h; omega)

end Go.Proofs.Ytbofijmijeaadaa.Pure
