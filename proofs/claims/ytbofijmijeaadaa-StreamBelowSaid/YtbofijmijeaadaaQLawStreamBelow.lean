-- Written by a program of this session (wip/tools/mkprint.py over the kit's print); Lean checks it.
import Derived.Test.YtbofijmijeaadaaRows
import Derived.Test.YtbofijmijeaadaaQStreamBelowx1
import Derived.Test.YtbofijmijeaadaaQPureStreamBelow
import Derived.Test.YtbofijmijeaadaaOpn
import Derived.WalkKit
import Derived.ProofKit
import Derived.OpenShut
import Derived.ShutString
import Derived.ChangeOld
import Derived.Below
import Derived.SizedLaws
import Derived.Test.YtbofijmijeaadaaWSized
namespace Go.Proofs.Ytbofijmijeaadaa.streamBelow
open Go.ChangeShapes Go.WideShapes Go.ChangeAt Go.RowKit Go.Proofs.Ytbofijmijeaadaa.Opn Go.Proofs.YtbofijmijeaadaaW.PrintWords Go.Proofs.Ytbofijmijeaadaa.QStreamBelow
open Go.ChangeMaps (open_string shut_string)
set_option linter.unusedVariables false
theorem own : ownKnob Try.prog.godebug = none := by kernel_rfl
theorem laidOut : laidOutB Try.prog = true := by kernel_rfl
set_option maxRecDepth 100000 in
set_option maxHeartbeats 4000000 in
theorem lifted (os : Os) (started : os.Started) (H : Type) (enc : TypeId × Value → H) :
    ReturnsInHanded {} Try.checked os 6 .any (Rows.streamBelowSpec.pre6 enc Try.prog Try.f6 Rows.streamBelowRow.domain false) (Rows.streamBelowSpec.post enc Try.prog Try.f6 false true false false) := by
  refine returnsInHanded_of_change_sized (C := Try.checked) own started (by kernel_rfl) Try.func6
    (ChangeSpec.witness6 (enc := enc) (C := Try.checked) false ⟨#[], #[.slice none 0 0, .slice none 0 0], []⟩ 8 (by kernel_rfl) (by kernel_rfl) (by kernel_rfl) (by kernel_rfl)) ?_
  intro W base args ds gs before hval0 hW hcnd hsz0 _
  have hsz : (DataW.weightsEach Try.prog (Try.f6.params.toList ++ Rows.streamBelowSpec.plain.varTypes Try.prog) (ds ++ gs)).all (· ≤ reachBytes) = true := hsz0
  have hval : ∀ (j : Nat) t v, Try.f6.params[j]? = some t → args[j]? = some v → Value.okWide Try.prog W .any base t v := hval0
  have hW' := hW
  obtain ⟨p, q, hA0, hV, rfl, hfz, hnd⟩ := hW
  have hA : DataW.TrodAll enc Try.prog W 0 (fun _ => true) true Try.f6.params.toList args.toList ds p := hA0
  rw [Try.params6] at hA hval hsz
  obtain ⟨v0, vs0, d0, ds0, p0, q0, hargs, rfl, rfl, h0, r0⟩ := trodAll_cons hA
  obtain ⟨v1, vs1, d1, ds1, p1, q1, rfl, rfl, rfl, h1, r1⟩ := trodAll_cons r0
  obtain ⟨rfl, rfl, rfl⟩ := trodAll_nil r1
  obtain rfl : args = #[v0, v1] := by cases args; simp_all
  obtain ⟨rfl, rfl⟩ := trodVars_none hV
  obtain ⟨a0, len0, cap0, rfl⟩ := okWide_slice Try.underlying23 (hval 0 23 v0 rfl rfl)
  have k0 := h0
  have lt0 : ∀ x ∈ p0, x.block < W.heap.size := by obtain ⟨m, hm⟩ := k0; exact DataW.trod_lt m _ _ _ hm
  obtain ⟨y0, hK0, hg0⟩ : ∃ y : List Int, (Kd.slice 22 (Kd.int .u64)).K W y [.slice a0 len0 cap0] ∧ (y.length ≤ maxLen ∧ ∀ v0 ∈ y, (Lit.int .u64 v0).wf = true) := by
    obtain ⟨fuel, hf⟩ := h0
    have o : Opens enc Try.prog W 0 (fun _ => true) true 23 (Kd.slice 22 (Kd.int .u64)) (fun y : (List Int) => (y.length ≤ maxLen ∧ ∀ v0 ∈ y, (Lit.int .u64 v0).wf = true)) := by
      refine opens_slice (d := (Kd.int .u64)) (good := fun y : (Int) => (Lit.int .u64 y).wf = true) Try.underlying23 (by kernel_rfl) ?_
      exact opens_int Try.underlying22
    exact o fuel _ _ hf
  obtain ⟨A0, c0, e0, hc0, hr0⟩ := hK0
  simp only [List.cons.injEq, Value.slice.injEq, and_true] at e0
  obtain ⟨rfl, rfl, rfl⟩ := e0
  have yb0 : y0.length * 8 ≤ 140737488351232 := Go.Proofs.YtbofijmijeaadaaW.PrintWords.sized_ints hsz (j := 0) (t := 23) rfl rfl Try.underlying23 Try.underlying22 (by kernel_rfl) (by kernel_rfl) h0
  obtain ⟨a1, len1, cap1, rfl⟩ := okWide_slice Try.underlying23 (hval 1 23 v1 rfl rfl)
  have k1 := h1
  have lt1 : ∀ x ∈ p1, x.block < W.heap.size := by obtain ⟨m, hm⟩ := k1; exact DataW.trod_lt m _ _ _ hm
  obtain ⟨y1, hK1, hg1⟩ : ∃ y : List Int, (Kd.slice 22 (Kd.int .u64)).K W y [.slice a1 len1 cap1] ∧ (y.length ≤ maxLen ∧ ∀ v0 ∈ y, (Lit.int .u64 v0).wf = true) := by
    obtain ⟨fuel, hf⟩ := h1
    have o : Opens enc Try.prog W 0 (fun _ => true) true 23 (Kd.slice 22 (Kd.int .u64)) (fun y : (List Int) => (y.length ≤ maxLen ∧ ∀ v0 ∈ y, (Lit.int .u64 v0).wf = true)) := by
      refine opens_slice (d := (Kd.int .u64)) (good := fun y : (Int) => (Lit.int .u64 y).wf = true) Try.underlying23 (by kernel_rfl) ?_
      exact opens_int Try.underlying22
    exact o fuel _ _ hf
  obtain ⟨A1, c1, e1, hc1, hr1⟩ := hK1
  simp only [List.cons.injEq, Value.slice.injEq, and_true] at e1
  obtain ⟨rfl, rfl, rfl⟩ := e1
  have yb1 : y1.length * 8 ≤ 140737488351232 := Go.Proofs.YtbofijmijeaadaaW.PrintWords.sized_ints hsz (j := 1) (t := 23) rfl rfl Try.underlying23 Try.underlying22 (by kernel_rfl) (by kernel_rfl) h1
  clear hA0 hval0 hsz0 hsz
  have h := Pure.StreamBelow y0 y1 hg0 yb0 hg1 yb1
  refine (hornbeamlaw02_StreamBelow.calls _ _ y0 _ _ y1 true W hr0 hc0 hr1 hc1 h rfl).mono fun e W' ⟨he, hd⟩ => ?_
  have bel : Below W.heap.size W W' := hd
  subst he
  exact ⟨_, rfl, _, _, _, [], _, [], hW', trodAll_mk1 (shut_bool Try.underlying4 _), (trodAll_cons_mk (Below.trod laidOut (by kernel_rfl) (of_decide_eq_true (by kernel_rfl)) k0 bel lt0) (trodAll_cons_mk (Below.trod laidOut (by kernel_rfl) (of_decide_eq_true (by kernel_rfl)) k1 bel lt1) trodAll_mk0)), rfl, bel.frame _, fun h => by cases h⟩
theorem over : Rows.streamBelowRow.holds Try.pinned (OpenSpec.ofChange Rows.streamBelowSpec) :=
  OpenClaim.holds_of_wide 6 Try.f6 rfl rfl rfl rfl rfl rfl rfl ⟨rfl, rfl, rfl, rfl, rfl⟩ rfl rfl rfl rfl rfl (by kernel_rfl) Try.func6 (by kernel_rfl)
    (of_decide_eq_true (by kernel_rfl)) (by unfold Func.isWrapper; first | (rw [if_pos (by decide +kernel)]; kernel_rfl) | (rw [if_neg (by decide +kernel)]; exact ⟨rfl, rfl⟩))
    (fun os started H enc _ => lifted os started H enc)
theorem proved : Rows.StreamBelowSaid := over
#print axioms proved
end Go.Proofs.Ytbofijmijeaadaa.streamBelow
namespace Go.Proofs.Ytbofijmijeaadaa
/-- The row, under a short name, for the claim. -/
theorem streamBelow_holds : Rows.StreamBelowSaid := streamBelow.proved
end Go.Proofs.Ytbofijmijeaadaa
