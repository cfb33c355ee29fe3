/- For all numbers a, b the law ProdFloors answers true. No condition. -/
import Derived.Test.YtglicbpnmehloaaPProdFloorsx2
import Derived.Test.YtglicbpnmehloaaP64
namespace Go.Proofs.Ytglicbpnmehloaa.Pure
open Go.RowKit Go.Proofs.Ytglicbpnmehloaa.PProdFloors Go.Proofs.YtglicbpnmehloaaW.PrintWords Go.Proofs.YtglicbpnmehloaaW.PrintLast
open Go.Proofs.Ytglicbpnmehloaa.P64
namespace ProdFloors0
theorem floor_f {a b : Int} (a0 : -9223372036854775808 ≤ a) (a1 : a ≤ 9223372036854775807) (hb : 1 ≤ b) : prod_Floor.f a b = some (a / b, 0) := by
  unfold prod_Floor.f
  rw [if_neg (by omega), if_neg (by omega)]
  exact floor_eq a0 a1 hb
theorem square_f {a : Int} : prod_Square.f a = some (mul64 (sizeI a) (sizeI a)) := by
  have h : prod_size.f a = some (sizeI a) := by unfold prod_size.f sizeI; split <;> rfl
  unfold prod_Square.f
  rw [h, Option.bind_some, Option.bind_some]
  rfl
theorem fixed_f : hornbeamlaw04_fixed.f = some true := by
  unfold hornbeamlaw04_fixed.f
  rw [floor_f (by omega) (by omega) (by omega), Option.bind_some, if_pos rfl, if_pos (by decide), square_f, Option.bind_some, sizeI_eq (by omega) (by omega), mul64_eq (by omega) (by omega) (by omega) (by omega)]
  rfl
end ProdFloors0
open ProdFloors0
theorem ProdFloors : hornbeamlaw04_ProdFloors.Pure := by
  intro a b ha hb
  obtain ⟨a0, a1⟩ := wf_i64 ha
  obtain ⟨b0, b1⟩ := wf_i64 hb
  unfold hornbeamlaw04_ProdFloors.f
  by_cases h : b < 1
  · unfold prod_Floor.f
    rw [if_pos h, Option.bind_some, if_pos h, fixed_f, Option.bind_some, if_pos rfl, if_pos rfl]
    rfl
  · have hq := ediv_bounds a0 a1 (b := b) (by omega)
    have hr := Int.emod_nonneg a (b := b) (by omega)
    have hr2 := Int.emod_lt_of_pos a (b := b) (by omega)
    have he := Int.mul_ediv_add_emod a b
    have hn : (a / b < 0) ↔ (a < 0) := by
      constructor
      · intro h1; rcases Int.lt_or_le a 0 with h2 | h2
        · exact h2
        · have := Int.ediv_nonneg h2 (b := b) (by omega); omega
      · intro h1; exact Int.ediv_neg_of_neg_of_pos h1 (by omega)
    rw [floor_f a0 a1 (by omega), Option.bind_some, if_neg h, fixed_f, Option.bind_some, if_pos rfl, if_pos rfl]
    have e1 : IntKind.u64.wrap (IntKind.u64.wrap a - IntKind.u64.wrap (IntKind.u64.wrap (a / b) * IntKind.u64.wrap b)) = a % b := by
      simp only [wrap_u64]
      rw [← Int.mul_emod, Int.mul_comm (a / b) b]
      generalize b * (a / b) = p at *
      omega
    rw [e1, wrap_u64, if_pos (by omega), decide_eq_decide.2 hn, beq_self_eq_true]

end Go.Proofs.Ytglicbpnmehloaa.Pure
