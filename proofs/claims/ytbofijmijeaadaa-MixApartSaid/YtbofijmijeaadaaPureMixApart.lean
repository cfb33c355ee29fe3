/- For all numbers a, b and every list of numbers the law MixApart answers true. No condition. -/
import Derived.Test.YtbofijmijeaadaaPMixApartx1
import Derived.Test.YtbofijmijeaadaaU64
import Derived.Test.YtbofijmijeaadaaBridge
namespace Go.Proofs.Ytbofijmijeaadaa.Pure
open Go.RowKit Go.Proofs.Ytbofijmijeaadaa.PMixApart Go.Proofs.YtbofijmijeaadaaW.PrintWords Go.Proofs.YtbofijmijeaadaaW.PrintLast
open Go.Proofs.Ytbofijmijeaadaa.U64

namespace MixApart0
theorem mix_f (x : B) : mix_Mix.f (U x) = some (U (mixB x)) := congrArg some (mixI_U x)
theorem rd_U (l : List B) (i : Nat) (h : i < l.length) : rd (l.map U) (i : Int) = U l[i] := by
  simp [rd, List.getD, h]
theorem fold_l (l : List B) (hl : l.length ≤ 200) (d : Nat) : ∀ (k : Nat) (z : B) (i : Nat), i + d = l.length → d < k →
    mix_Fold.l0 k (U z) (l.map U) (l.length : Int) (i : Int) = some (U (foldB z (l.drop i))) := by
  induction d with
  | zero =>
    intro k z i h hk
    obtain ⟨k, rfl⟩ : ∃ m, k = m + 1 := ⟨k - 1, by omega⟩
    simp only [mix_Fold.l0]
    rw [if_neg (by omega), List.drop_eq_nil_of_le (by omega)]; rfl
  | succ d ih =>
    intro k z i h hk
    obtain ⟨k, rfl⟩ : ∃ m, k = m + 1 := ⟨k - 1, by omega⟩
    simp only [mix_Fold.l0]
    rw [if_pos (by omega), if_pos (by omega), if_pos (by rw [List.length_map]; omega), rd_U l i (by omega), xor_U, mix_f, Option.bind_some]
    rw [show wrap64 ((i : Int) + 1) = ((i + 1 : Nat) : Int) by unfold wrap64; omega, ih k _ (i + 1) (by omega) (by omega), List.drop_eq_getElem_cons (by omega : i < l.length)]
    rfl
theorem fold_f (l : List B) (hl : l.length ≤ 200) (k : Nat) (hk : 200 < k) : mix_Fold.f k (l.map U) = some (U (foldB 0#64 l)) := by
  have := fold_l l hl l.length k 0#64 0 (by omega) (by omega)
  unfold mix_Fold.f
  rw [List.length_map]
  simpa [U] using this
theorem fixed_f : hornbeamlaw01_fixed.f = some true := by
  have h1 : mix_Mix.f 0 = some 16294208416658607535 := (mix_f 0#64).trans (congrArg some mix_0)
  have h2 : mix_Mix.f 11400714819323198485 = some 7960286522194355700 := by rw [UC0, mix_f, mix_C0]
  unfold hornbeamlaw01_fixed.f
  rw [h1, Option.bind_some, if_pos rfl, h2]; rfl

theorem map_snoc (l : List B) (x : B) : ([] ++ l.map U) ++ [U x] = (l ++ [x]).map U := by simp
theorem snoc_len (l : List B) (x : B) (h : l.length ≤ 100) : (l ++ [x]).length ≤ 200 := by rw [List.length_append, List.length_singleton]; omega
theorem foldB_snoc (l : List B) (x : B) : foldB 0#64 (l ++ [x]) = mixB (foldB 0#64 l ^^^ x) := by rw [foldB_append]; rfl
theorem law_f (k : Nat) (a b : B) (l : List B) (hk : 200 < k) (hl2 : l.length ≤ 100) : hornbeamlaw01_MixApart.f k (U a) (U b) (l.map U) = some true := by
  unfold hornbeamlaw01_MixApart.f
  rw [if_neg (by rw [List.length_map]; omega), Option.bind_some, if_pos (by rw [List.length_map, List.length_nil]; omega), Option.bind_some, if_pos (by rw [List.nil_append, List.length_map]; omega),
    map_snoc, fold_f _ (snoc_len l a hl2) k hk, Option.bind_some, Option.bind_some, if_pos (by rw [List.length_map, List.length_nil]; omega), Option.bind_some, if_pos (by rw [List.nil_append, List.length_map]; omega),
    map_snoc, fold_f _ (snoc_len l b hl2) k hk, Option.bind_some, fixed_f, Option.bind_some, if_pos rfl, mix_f, Option.bind_some, mix_f, Option.bind_some]
  have e1 : (U (mixB a) == U (mixB b)) = (U a == U b) := by
    rw [beq_U, beq_U, Bool.eq_iff_iff, beq_iff_eq, beq_iff_eq]
    exact ⟨mix_inj, fun h => h ▸ rfl⟩
  have e2 : (U (foldB 0#64 (l ++ [a])) == U (foldB 0#64 (l ++ [b]))) = (U a == U b) := by
    rw [beq_U, beq_U, Bool.eq_iff_iff, beq_iff_eq, beq_iff_eq, foldB_snoc, foldB_snoc]
    exact ⟨fun h => xor_inj (mix_inj h), fun h => h ▸ rfl⟩
  rw [e1, e2, beq_self_eq_true, if_pos rfl]
theorem law_g (k : Nat) (a b : Int) (l : List Int) (h : (l.length : Int) > 100) : hornbeamlaw01_MixApart.f k a b l = some true := by
  unfold hornbeamlaw01_MixApart.f
  rw [if_pos h, fixed_f]
  rfl
end MixApart0
open MixApart0
theorem MixApart : hornbeamlaw01_MixApart.Pure := by
  intro a b l ha hb _ _ hl
  obtain ⟨a, rfl⟩ := U_wf ha
  obtain ⟨b, rfl⟩ := U_wf hb
  obtain ⟨l, rfl⟩ := list_U hl
  refine ⟨201, ?_⟩
  by_cases h : ((l.map U).length : Int) > 100
  · exact law_g 201 _ _ _ h
  · exact law_f 201 a b l (by omega) (by rw [List.length_map] at h; omega)

end Go.Proofs.Ytbofijmijeaadaa.Pure
