-- Written by hand (wip/tools/gen_row_plays.py); Lean checks it.
import Derived.Test.YtbofijmijeaadaaRows
import Derived.Test.YtbofijmijeaadaaQStreamPlaysx2
import Derived.Test.YtbofijmijeaadaaQPureStreamPlays
import Derived.Test.YtbofijmijeaadaaOpn
import Derived.WalkKit
import Derived.ProofKit
import Derived.OpenShut
import Derived.ShutString
import Derived.ChangeOld
import Derived.Below
import Derived.Laws.IdiomArrays
import Derived.SizedLaws
import Derived.Test.YtbofijmijeaadaaWSized
namespace Go.Proofs.Ytbofijmijeaadaa.streamPlays
open Go.ChangeShapes Go.WideShapes Go.ChangeAt Go.RowKit Go.Proofs.Ytbofijmijeaadaa.Opn Go.Proofs.YtbofijmijeaadaaW.PrintWords Go.Proofs.Ytbofijmijeaadaa.QStreamPlays
open Go.ChangeMaps (open_string shut_string)
set_option linter.unusedVariables false
theorem own : ownKnob Try.prog.godebug = none := by kernel_rfl
theorem laidOut : laidOutB Try.prog = true := by kernel_rfl
theorem four_of {l : List Value} (h : (Array.mk l).size = 4) : ∃ c0 c1 c2 c3 : Value, l = [c0, c1, c2, c3] := by
  match l, h with
  | [c0, c1, c2, c3], _ => exact ⟨c0, c1, c2, c3, rfl⟩
set_option maxRecDepth 100000 in
set_option maxHeartbeats 4000000 in
theorem lifted (os : Os) (started : os.Started) (H : Type) (enc : TypeId × Value → H) :
    ReturnsInHanded {} Try.checked os 11 .any (Rows.streamPlaysSpec.pre6 enc Try.prog Try.f11 Rows.streamPlaysRow.domain false) (Rows.streamPlaysSpec.post enc Try.prog Try.f11 false true false false) := by
  refine returnsInHanded_of_change_sized (C := Try.checked) own started (by kernel_rfl) Try.func11
    (ChangeSpec.witness6 (enc := enc) (C := Try.checked) false ⟨#[], #[.agg #[.int .u64 0, .int .u64 0, .int .u64 0, .int .u64 0], .int .u64 0, .int .u8 0], []⟩ 8 (by kernel_rfl) (by kernel_rfl) (by kernel_rfl) (by kernel_rfl)) ?_
  intro W base args ds gs before hval0 hW hcnd hsz0 _
  have hsz : (DataW.weightsEach Try.prog (Try.f11.params.toList ++ Rows.streamPlaysSpec.plain.varTypes Try.prog) (ds ++ gs)).all (· ≤ reachBytes) = true := hsz0
  have hval : ∀ (j : Nat) t v, Try.f11.params[j]? = some t → args[j]? = some v → Value.okWide Try.prog W .any base t v := hval0
  have hW' := hW
  obtain ⟨p, q, hA0, hV, rfl, hfz, hnd⟩ := hW
  have hA : DataW.TrodAll enc Try.prog W 0 (fun _ => true) true Try.f11.params.toList args.toList ds p := hA0
  rw [Try.params11] at hA hval hsz
  obtain ⟨v0, vs0, d0, ds0, p0, q0, hargs, rfl, rfl, h0, r0⟩ := trodAll_cons hA
  obtain ⟨v1, vs1, d1, ds1, p1, q1, rfl, rfl, rfl, h1, r1⟩ := trodAll_cons r0
  obtain ⟨v2, vs2, d2, ds2, p2, q2, rfl, rfl, rfl, h2, r2⟩ := trodAll_cons r1
  obtain ⟨rfl, rfl, rfl⟩ := trodAll_nil r2
  obtain rfl : args = #[v0, v1, v2] := by cases args; simp_all
  obtain ⟨rfl, rfl⟩ := trodVars_none hV
  obtain ⟨cs0, rfl, hs0⟩ : ∃ cs, v0 = .agg cs ∧ cs.size = 4 := by
    have hv := hval 0 49 v0 rfl rfl
    simp only [Value.okWide, Try.underlying49] at hv
    obtain ⟨cs, e1, e2, _⟩ := hv
    exact ⟨cs, e1, e2.trans (by kernel_rfl)⟩
  obtain ⟨cl0⟩ := cs0
  obtain ⟨c0, c1, c2, c3, rfl⟩ := four_of hs0
  have k0 := h0
  have lt0 : ∀ x ∈ p0, x.block < W.heap.size := by obtain ⟨m, hm⟩ := k0; exact DataW.trod_lt m _ _ _ hm
  obtain ⟨fuel0, hf0⟩ := h0
  obtain ⟨_, _, _, _, n0, _, f0, f1, f2, f3⟩ := trod_array4 Try.underlying49 (by kernel_rfl) hf0
  obtain ⟨x0, g0, _, b0⟩ := DataW.trod_int Try.underlying22 f0
  obtain ⟨x1, g1, _, b1⟩ := DataW.trod_int Try.underlying22 f1
  obtain ⟨x2, g2, _, b2⟩ := DataW.trod_int Try.underlying22 f2
  obtain ⟨x3, g3, _, b3⟩ := DataW.trod_int Try.underlying22 f3
  simp only [List.cons.injEq, and_true] at g0 g1 g2 g3
  subst g0 g1 g2 g3
  obtain ⟨a1, rfl, rfl, rfl, w1⟩ := open_int Try.underlying22 (hval 1 22 v1 rfl rfl) h1
  obtain ⟨a2, rfl, rfl, rfl, w2⟩ := open_int Try.underlying5 (hval 2 5 v2 rfl rfl) h2
  clear hA0 hval0 hsz0 hsz
  have h := Pure.StreamPlays x0 x1 x2 x3 a1 a2 b0 b1 b2 b3 w1 w2
  refine (hornbeamlaw02_StreamPlays.calls x0 x1 x2 x3 a1 a2 true W h rfl).mono fun e W' ⟨he, hd⟩ => ?_
  have bel : Below W.heap.size W W' := hd
  subst he
  exact ⟨_, rfl, _, _, _, [], _, [], hW', trodAll_mk1 (shut_bool Try.underlying4 _), (trodAll_cons_mk (Below.trod laidOut (by kernel_rfl) (of_decide_eq_true (by kernel_rfl)) k0 bel lt0) (trodAll_cons_mk (shut_int Try.underlying22 w1) (trodAll_cons_mk (shut_int Try.underlying5 w2) trodAll_mk0))), rfl, bel.frame _, fun h => by cases h⟩
theorem over : Rows.streamPlaysRow.holds Try.pinned (OpenSpec.ofChange Rows.streamPlaysSpec) :=
  OpenClaim.holds_of_wide 11 Try.f11 rfl rfl rfl rfl rfl rfl rfl ⟨rfl, rfl, rfl, rfl, rfl⟩ rfl rfl rfl rfl rfl (by kernel_rfl) Try.func11 (by kernel_rfl)
    (of_decide_eq_true (by kernel_rfl)) (by unfold Func.isWrapper; first | (rw [if_pos (by decide +kernel)]; kernel_rfl) | (rw [if_neg (by decide +kernel)]; exact ⟨rfl, rfl⟩))
    (fun os started H enc _ => lifted os started H enc)
theorem proved : Rows.StreamPlaysSaid := over
#print axioms proved
end Go.Proofs.Ytbofijmijeaadaa.streamPlays
namespace Go.Proofs.Ytbofijmijeaadaa
/-- The row, under a short name, for the claim. -/
theorem streamPlays_holds : Rows.StreamPlaysSaid := streamPlays.proved
end Go.Proofs.Ytbofijmijeaadaa
