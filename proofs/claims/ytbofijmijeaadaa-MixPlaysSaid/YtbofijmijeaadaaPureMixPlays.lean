/- For every number x and every list of numbers (at most 100 are gone through) the law MixPlays answers true. No condition. -/
import Derived.Test.YtbofijmijeaadaaPMixPlaysx1
import Derived.Test.YtbofijmijeaadaaU64
import Derived.Test.YtbofijmijeaadaaBridge
namespace Go.Proofs.Ytbofijmijeaadaa.Pure
open Go.RowKit Go.Proofs.Ytbofijmijeaadaa.PMixPlays Go.Proofs.YtbofijmijeaadaaW.PrintWords Go.Proofs.YtbofijmijeaadaaW.PrintLast
open Go.Proofs.Ytbofijmijeaadaa.U64

namespace MixPlays0
theorem mix_f (x : B) : mix_Mix.f (U x) = some (U (mixB x)) := congrArg some (mixI_U x)
theorem half_l (n : Int) (d : Nat) : ∀ (k : Nat) (x : B) (i : Int), 0 ≤ i → i + d = n → n ≤ 100 → d < k →
    hornbeamref01_half.l0 k (U x) n i = some (U (x >>> d)) := by
  induction d with
  | zero =>
    intro k x i h0 h1 h2 hk
    obtain ⟨k, rfl⟩ : ∃ m, k = m + 1 := ⟨k - 1, by omega⟩
    simp only [hornbeamref01_half.l0]
    rw [if_neg (by omega), BitVec.ushiftRight_zero]
  | succ d ih =>
    intro k x i h0 h1 h2 hk
    obtain ⟨k, rfl⟩ : ∃ m, k = m + 1 := ⟨k - 1, by omega⟩
    simp only [hornbeamref01_half.l0]
    rw [if_pos (by omega), Int.tdiv_eq_ediv_of_nonneg (U_nonneg x)]
    rw [show U x / (2 : Int) = U (x >>> 1) from div_U x 1, wrap_U, show wrap64 (i + 1) = i + 1 by unfold wrap64; omega]
    rw [ih k (x >>> 1) (i + 1) (by omega) (by omega) h2 (by omega), ← BitVec.shiftRight_add, Nat.add_comm 1 d]
theorem half_f (k : Nat) (x : B) (n : Nat) (m : Int) (hm : m = (n : Int)) (hn : n ≤ 100) (hk : n < k) : hornbeamref01_half.f k (U x) m = some (U (x >>> n)) :=
  half_l m n k x 0 (by omega) (by omega) (by omega) hk
theorem times_l (d : Nat) : ∀ (k : Nat) (a b out : B), b.toNat < 2 ^ d → d < k →
    hornbeamref01_times.l0 k (U a) (U b) (U out) = some (U (out + a * b)) := by
  induction d with
  | zero =>
    intro k a b out hb hk
    obtain ⟨k, rfl⟩ : ∃ m, k = m + 1 := ⟨k - 1, by omega⟩
    have : b = 0#64 := BitVec.eq_of_toNat_eq (by simp at hb ⊢; omega)
    subst this
    simp only [hornbeamref01_times.l0]
    rw [if_neg (by unfold U; simp), BitVec.mul_zero, BitVec.add_zero]
  | succ d ih =>
    intro k a b out hb hk
    obtain ⟨k, rfl⟩ : ∃ m, k = m + 1 := ⟨k - 1, by omega⟩
    simp only [hornbeamref01_times.l0]
    by_cases h0 : U b > 0
    · rw [if_pos h0, Int.tmod_eq_emod_of_nonneg (U_nonneg b), Int.tdiv_eq_ediv_of_nonneg (U_nonneg b), show U b / (2 : Int) = U (b >>> 1) from div_U b 1, wrap_U, wrap_add, wrap_add]
      have hb1 : (b >>> 1).toNat = b.toNat / 2 := by rw [BitVec.toNat_ushiftRight]; rfl
      have hlt : (b >>> 1).toNat < 2 ^ d := by rw [hb1]; rw [Nat.pow_succ] at hb; omega
      have hm : U b % 2 = ((b.toNat % 2 : Nat) : Int) := by unfold U; omega
      by_cases h1 : U b % 2 = 1
      · rw [if_pos h1, ih k _ _ _ hlt (by omega)]
        congr 2
        apply BitVec.eq_of_toNat_eq
        have hb2 : b.toNat = 2 * (b >>> 1).toNat + 1 := by omega
        simp only [BitVec.toNat_add, BitVec.toNat_mul]
        rw [hb2]
        generalize (b >>> 1).toNat = q
        simp only [Nat.mod_add_mod, Nat.add_mod_mod, Nat.mod_mul_mod]
        congr 1
        rw [Nat.mul_add, Nat.add_mul, Nat.mul_one, Nat.mul_comm 2 q, ← Nat.mul_assoc]
        omega
      · rw [if_neg h1, ih k _ _ _ hlt (by omega)]
        congr 2
        apply BitVec.eq_of_toNat_eq
        have hb2 : b.toNat = 2 * (b >>> 1).toNat := by omega
        simp only [BitVec.toNat_add, BitVec.toNat_mul]
        rw [hb2]
        generalize (b >>> 1).toNat = q
        simp only [Nat.add_mod_mod, Nat.mod_mul_mod]
        congr 1
        rw [Nat.add_mul, Nat.mul_comm 2 q, ← Nat.mul_assoc]
        omega
    · have : b = 0#64 := BitVec.eq_of_toNat_eq (by unfold U at h0; simp; omega)
      subst this
      rw [if_neg h0, BitVec.mul_zero, BitVec.add_zero]
theorem times_f (k : Nat) (a b : B) (hk : 64 < k) : hornbeamref01_times.f k (U a) (U b) = some (U (a * b)) := by
  have := times_l 64 k a b 0#64 b.isLt hk
  rw [BitVec.zero_add] at this
  exact this
theorem ref_f (k : Nat) (x : B) (hk : 64 < k) : hornbeamref01_Mix.f k (U x) = some (U (mixB x)) := by
  unfold hornbeamref01_Mix.f
  rw [UC0, wrap_add, UC1, UC2]
  rw [half_f k _ 30 30 rfl (by omega) (by omega)]; simp only [Option.bind_some]
  rw [xor_U, times_f k _ _ hk]; simp only [Option.bind_some]
  rw [half_f k _ 27 27 rfl (by omega) (by omega)]; simp only [Option.bind_some]
  rw [xor_U, times_f k _ _ hk]; simp only [Option.bind_some]
  rw [half_f k _ 31 31 rfl (by omega) (by omega)]; simp only [Option.bind_some]
  rw [xor_U]; rfl
theorem rd_U (l : List B) (i : Nat) (h : i < l.length) : rd (l.map U) (i : Int) = U l[i] := by
  simp [rd, List.getD, h]
theorem fold_l (l : List B) (hl : l.length ≤ 100) (d : Nat) : ∀ (k : Nat) (z : B) (i : Nat), i + d = l.length → d < k →
    mix_Fold.l0 k (U z) (l.map U) (l.length : Int) (i : Int) = some (U (foldB z (l.drop i))) := by
  induction d with
  | zero =>
    intro k z i h hk
    obtain ⟨k, rfl⟩ : ∃ m, k = m + 1 := ⟨k - 1, by omega⟩
    simp only [mix_Fold.l0]
    rw [if_neg (by omega), List.drop_eq_nil_of_le (by omega)]; rfl
  | succ d ih =>
    intro k z i h hk
    obtain ⟨k, rfl⟩ : ∃ m, k = m + 1 := ⟨k - 1, by omega⟩
    simp only [mix_Fold.l0]
    rw [if_pos (by omega), if_pos (by omega), if_pos (by rw [List.length_map]; omega), rd_U l i (by omega), xor_U, mix_f]
    simp only [Option.bind_some]
    rw [show wrap64 ((i : Int) + 1) = ((i + 1 : Nat) : Int) by unfold wrap64; omega, ih k _ (i + 1) (by omega) (by omega), List.drop_eq_getElem_cons (by omega : i < l.length)]
    rfl
theorem fold_f (l : List B) (hl : l.length ≤ 100) (k : Nat) (hk : 100 < k) : mix_Fold.f k (l.map U) = some (U (foldB 0#64 l)) := by
  have := fold_l l hl l.length k 0#64 0 (by omega) (by omega)
  unfold mix_Fold.f
  rw [List.length_map]
  simpa [U] using this
theorem rfold_l (l : List B) (hl : l.length ≤ 100) (d : Nat) : ∀ (k : Nat) (z : B) (i : Nat), i + d = l.length → d + 64 < k →
    hornbeamref01_Fold.l0 k (l.map U) (U z) (i : Int) = some (U (foldB z (l.drop i))) := by
  induction d with
  | zero =>
    intro k z i h hk
    obtain ⟨k, rfl⟩ : ∃ m, k = m + 1 := ⟨k - 1, by omega⟩
    simp only [hornbeamref01_Fold.l0]
    rw [if_neg (by rw [List.length_map]; omega), List.drop_eq_nil_of_le (by omega)]; rfl
  | succ d ih =>
    intro k z i h hk
    obtain ⟨k, rfl⟩ : ∃ m, k = m + 1 := ⟨k - 1, by omega⟩
    simp only [hornbeamref01_Fold.l0]
    rw [if_pos (by rw [List.length_map]; omega), if_pos (by omega), rd_U l i (by omega), xor_U, ref_f k _ (by omega)]
    simp only [Option.bind_some]
    rw [show wrap64 ((i : Int) + 1) = ((i + 1 : Nat) : Int) by unfold wrap64; omega, ih k _ (i + 1) (by omega) (by omega), List.drop_eq_getElem_cons (by omega : i < l.length)]
    rfl
theorem rfold_f (l : List B) (hl : l.length ≤ 100) (k : Nat) (hk : 200 < k) : hornbeamref01_Fold.f k (l.map U) = some (U (foldB 0#64 l)) := by
  have := rfold_l l hl l.length k 0#64 0 (by omega) (by omega)
  unfold hornbeamref01_Fold.f
  simpa [U] using this
theorem fixed_f : hornbeamlaw01_fixed.f = some true := by
  have h1 : mix_Mix.f 0 = some 16294208416658607535 := (mix_f 0#64).trans (congrArg some mix_0)
  have h2 : mix_Mix.f 11400714819323198485 = some 7960286522194355700 := by rw [UC0, mix_f, mix_C0]
  unfold hornbeamlaw01_fixed.f
  rw [h1]; simp only [Option.bind_some, if_true]
  rw [h2]; rfl
end MixPlays0
open MixPlays0

theorem law_f (k : Nat) (a : B) (l : List B) (hk : 200 < k) (hl2 : l.length ≤ 100) : hornbeamlaw01_MixPlays.f k (U a) (l.map U) = some true := by
  unfold hornbeamlaw01_MixPlays.f
  rw [if_neg (by rw [List.length_map]; omega), fixed_f, Option.bind_some, if_pos rfl, mix_f, Option.bind_some, ref_f k a (by omega), Option.bind_some, if_pos rfl,
    fold_f l hl2 k (by omega), Option.bind_some, rfold_f l hl2 k (by omega), Option.bind_some, beq_self_eq_true]
theorem law_g (k : Nat) (a : Int) (l : List Int) (h : (l.length : Int) > 100) : hornbeamlaw01_MixPlays.f k a l = some true := by
  unfold hornbeamlaw01_MixPlays.f
  rw [if_pos h, fixed_f]
  rfl
theorem MixPlays : hornbeamlaw01_MixPlays.Pure := by
  intro a l ha _ _ hl
  obtain ⟨a, rfl⟩ := U_wf ha
  obtain ⟨l, rfl⟩ := list_U hl
  refine ⟨201, ?_⟩
  by_cases h : ((l.map U).length : Int) > 100
  · exact law_g 201 _ _ h
  · exact law_f 201 a l (by omega) (by rw [List.length_map] at h; omega)

end Go.Proofs.Ytbofijmijeaadaa.Pure
