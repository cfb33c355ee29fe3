-- Written by a program of this session (wip/tools/mkprint.py over the kit's print); Lean checks it.
import Derived.Test.YtoonddgldmfleaaRows
import Derived.Test.YtoonddgldmfleaaQSpreadScoresx14
import Derived.Test.YtoonddgldmfleaaQPureSpreadScores
import Derived.Test.YtoonddgldmfleaaOpn
import Derived.WalkKit
import Derived.ProofKit
import Derived.OpenShut
import Derived.ShutString
import Derived.ChangeOld
import Derived.Below
import Derived.SizedLaws
import Derived.Test.YtoonddgldmfleaaWSized
namespace Go.Proofs.Ytoonddgldmfleaa.spreadScores
open Go.ChangeShapes Go.WideShapes Go.ChangeAt Go.RowKit Go.Proofs.Ytoonddgldmfleaa.Opn Go.Proofs.YtoonddgldmfleaaW.PrintWords Go.Proofs.Ytoonddgldmfleaa.QSpreadScores
open Go.ChangeMaps (open_string shut_string)
set_option linter.unusedVariables false
theorem own : ownKnob Try.prog.godebug = none := by kernel_rfl
theorem laidOut : laidOutB Try.prog = true := by kernel_rfl
set_option maxRecDepth 100000 in
set_option maxHeartbeats 4000000 in
theorem lifted (os : Os) (started : os.Started) (H : Type) (enc : TypeId × Value → H) :
    ReturnsInHanded {} Try.checked os 9 .any (Rows.spreadScoresSpec.pre6 enc Try.prog Try.f9 Rows.spreadScoresRow.domain false) (Rows.spreadScoresSpec.post enc Try.prog Try.f9 false true false false) := by
  refine returnsInHanded_of_change_sized (C := Try.checked) own started (by kernel_rfl) Try.func9
    (ChangeSpec.witness6 (enc := enc) (C := Try.checked) false ⟨#[], #[.agg #[.int .i64 0, .int .i64 0, .int .i64 0], .agg #[.int .i64 0, .int .i64 0, .int .i64 0]], []⟩ 8 (by kernel_rfl) (by kernel_rfl) (by kernel_rfl) (by kernel_rfl)) ?_
  intro W base args ds gs before hval0 hW hcnd hsz0 _
  have hsz : (DataW.weightsEach Try.prog (Try.f9.params.toList ++ Rows.spreadScoresSpec.plain.varTypes Try.prog) (ds ++ gs)).all (· ≤ reachBytes) = true := hsz0
  have hval : ∀ (j : Nat) t v, Try.f9.params[j]? = some t → args[j]? = some v → Value.okWide Try.prog W .any base t v := hval0
  have hW' := hW
  obtain ⟨p, q, hA0, hV, rfl, hfz, hnd⟩ := hW
  have hA : DataW.TrodAll enc Try.prog W 0 (fun _ => true) true Try.f9.params.toList args.toList ds p := hA0
  rw [Try.params9] at hA hval hsz
  obtain ⟨v0, vs0, d0, ds0, p0, q0, hargs, rfl, rfl, h0, r0⟩ := trodAll_cons hA
  obtain ⟨v1, vs1, d1, ds1, p1, q1, rfl, rfl, rfl, h1, r1⟩ := trodAll_cons r0
  obtain ⟨rfl, rfl, rfl⟩ := trodAll_nil r1
  obtain rfl : args = #[v0, v1] := by cases args; simp_all
  obtain ⟨rfl, rfl⟩ := trodVars_none hV
  obtain ⟨cs0, rfl, _⟩ := okWide_struct Try.underlying26 (hval 0 26 v0 rfl rfl)
  obtain ⟨cl0⟩ := cs0
  have k0 := h0
  have lt0 : ∀ x ∈ p0, x.block < W.heap.size := by obtain ⟨m, hm⟩ := k0; exact DataW.trod_lt m _ _ _ hm
  obtain ⟨y0, hK0, hg0⟩ : ∃ y : S26, k26.K W y cl0 ∧ ((Lit.int .i64 y.f0).wf = true ∧ ((Lit.int .i64 y.f1).wf = true ∧ (Lit.int .i64 y.f2).wf = true)) := by
    obtain ⟨fuel, hf⟩ := h0
    have o : Opens enc Try.prog W 0 (fun _ => true) true 26 k26 (fun y => ((Lit.int .i64 y.f0).wf = true ∧ ((Lit.int .i64 y.f1).wf = true ∧ (Lit.int .i64 y.f2).wf = true))) := by
      refine opens_struct (total := 3) (d := (Kd.pair (Kd.int .i64) (Kd.pair (Kd.int .i64) (Kd.int .i64)))) (good := fun y => ((Lit.int .i64 y.1).wf = true ∧ ((Lit.int .i64 y.2.1).wf = true ∧ (Lit.int .i64 y.2.2).wf = true))) (g := fun y : S26 => ((Lit.int .i64 y.f0).wf = true ∧ ((Lit.int .i64 y.f1).wf = true ∧ (Lit.int .i64 y.f2).wf = true))) (fun x : S26 => (x.f0, x.f1, x.f2)) (fun y => (⟨y.1, y.2.1, y.2.2⟩ : S26)) (fun _ => rfl) (fun _ h => h) Try.underlying26 (by kernel_rfl) ?_
      refine tail_cons (j := 0) (off := 0) (off2 := 1) (d := (Kd.int .i64)) (d2 := (Kd.pair (Kd.int .i64) (Kd.int .i64))) (good := fun y => (Lit.int .i64 y).wf = true) (good2 := fun y => ((Lit.int .i64 y.1).wf = true ∧ (Lit.int .i64 y.2).wf = true)) rfl rfl (by kernel_rfl) rfl ?_ ?_
      · exact opens_int Try.underlying2
      refine tail_cons (j := 1) (off := 1) (off2 := 2) (d := (Kd.int .i64)) (d2 := (Kd.int .i64)) (good := fun y => (Lit.int .i64 y).wf = true) (good2 := fun y => (Lit.int .i64 y).wf = true) rfl rfl (by kernel_rfl) rfl ?_ ?_
      · exact opens_int Try.underlying2
      refine tail_last (j := 2) (off := 2) (d := (Kd.int .i64)) (good := fun y => (Lit.int .i64 y).wf = true) rfl rfl (by kernel_rfl) rfl ?_
      exact opens_int Try.underlying2
    exact o fuel _ _ hf
  obtain ⟨_, _, rfl, rfl, ⟨_, _, rfl, rfl, rfl⟩⟩ := hK0
  obtain ⟨cs1, rfl, _⟩ := okWide_struct Try.underlying26 (hval 1 26 v1 rfl rfl)
  obtain ⟨cl1⟩ := cs1
  have k1 := h1
  have lt1 : ∀ x ∈ p1, x.block < W.heap.size := by obtain ⟨m, hm⟩ := k1; exact DataW.trod_lt m _ _ _ hm
  obtain ⟨y1, hK1, hg1⟩ : ∃ y : S26, k26.K W y cl1 ∧ ((Lit.int .i64 y.f0).wf = true ∧ ((Lit.int .i64 y.f1).wf = true ∧ (Lit.int .i64 y.f2).wf = true)) := by
    obtain ⟨fuel, hf⟩ := h1
    have o : Opens enc Try.prog W 0 (fun _ => true) true 26 k26 (fun y => ((Lit.int .i64 y.f0).wf = true ∧ ((Lit.int .i64 y.f1).wf = true ∧ (Lit.int .i64 y.f2).wf = true))) := by
      refine opens_struct (total := 3) (d := (Kd.pair (Kd.int .i64) (Kd.pair (Kd.int .i64) (Kd.int .i64)))) (good := fun y => ((Lit.int .i64 y.1).wf = true ∧ ((Lit.int .i64 y.2.1).wf = true ∧ (Lit.int .i64 y.2.2).wf = true))) (g := fun y : S26 => ((Lit.int .i64 y.f0).wf = true ∧ ((Lit.int .i64 y.f1).wf = true ∧ (Lit.int .i64 y.f2).wf = true))) (fun x : S26 => (x.f0, x.f1, x.f2)) (fun y => (⟨y.1, y.2.1, y.2.2⟩ : S26)) (fun _ => rfl) (fun _ h => h) Try.underlying26 (by kernel_rfl) ?_
      refine tail_cons (j := 0) (off := 0) (off2 := 1) (d := (Kd.int .i64)) (d2 := (Kd.pair (Kd.int .i64) (Kd.int .i64))) (good := fun y => (Lit.int .i64 y).wf = true) (good2 := fun y => ((Lit.int .i64 y.1).wf = true ∧ (Lit.int .i64 y.2).wf = true)) rfl rfl (by kernel_rfl) rfl ?_ ?_
      · exact opens_int Try.underlying2
      refine tail_cons (j := 1) (off := 1) (off2 := 2) (d := (Kd.int .i64)) (d2 := (Kd.int .i64)) (good := fun y => (Lit.int .i64 y).wf = true) (good2 := fun y => (Lit.int .i64 y).wf = true) rfl rfl (by kernel_rfl) rfl ?_ ?_
      · exact opens_int Try.underlying2
      refine tail_last (j := 2) (off := 2) (d := (Kd.int .i64)) (good := fun y => (Lit.int .i64 y).wf = true) rfl rfl (by kernel_rfl) rfl ?_
      exact opens_int Try.underlying2
    exact o fuel _ _ hf
  obtain ⟨_, _, rfl, rfl, ⟨_, _, rfl, rfl, rfl⟩⟩ := hK1
  clear hA0 hval0 hsz0 hsz
  obtain ⟨k, h⟩ := Pure.SpreadScores y0.f0 y0.f1 y0.f2 y1.f0 y1.f1 y1.f2 hg0.1 hg0.2.1 hg0.2.2 hg1.1 hg1.2.1 hg1.2.2
  refine (hornbeamlaw15_SpreadScores.calls k y0.f0 y0.f1 y0.f2 y1.f0 y1.f1 y1.f2 true W  h rfl).mono fun e W' ⟨he, hd⟩ => ?_
  have bel : Below W.heap.size W W' := hd
  subst he
  exact ⟨_, rfl, _, _, _, [], _, [], hW', trodAll_mk1 (shut_bool Try.underlying4 _), (trodAll_cons_mk (Below.trod laidOut (by kernel_rfl) (of_decide_eq_true (by kernel_rfl)) k0 bel lt0) (trodAll_cons_mk (Below.trod laidOut (by kernel_rfl) (of_decide_eq_true (by kernel_rfl)) k1 bel lt1) trodAll_mk0)), rfl, bel.frame _, fun h => by cases h⟩
theorem over : Rows.spreadScoresRow.holds Try.pinned (OpenSpec.ofChange Rows.spreadScoresSpec) :=
  OpenClaim.holds_of_wide 9 Try.f9 rfl rfl rfl rfl rfl rfl rfl ⟨rfl, rfl, rfl, rfl, rfl⟩ rfl rfl rfl rfl rfl (by kernel_rfl) Try.func9 (by kernel_rfl)
    (of_decide_eq_true (by kernel_rfl)) (by unfold Func.isWrapper; first | (rw [if_pos (by decide +kernel)]; kernel_rfl) | (rw [if_neg (by decide +kernel)]; exact ⟨rfl, rfl⟩))
    (fun os started H enc _ => lifted os started H enc)
theorem proved : Rows.SpreadScoresSaid := over
#print axioms proved
end Go.Proofs.Ytoonddgldmfleaa.spreadScores
namespace Go.Proofs.Ytoonddgldmfleaa
/-- The row, under a short name, for the claim. -/
theorem spreadScores_holds : Rows.SpreadScoresSaid := spreadScores.proved
end Go.Proofs.Ytoonddgldmfleaa
