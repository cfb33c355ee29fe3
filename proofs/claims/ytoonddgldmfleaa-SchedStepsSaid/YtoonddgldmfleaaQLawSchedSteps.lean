-- Written by a program of this session (wip/tools/mkprint.py over the kit's print); Lean checks it.
import Derived.Test.YtoonddgldmfleaaRows
import Derived.Test.YtoonddgldmfleaaQSchedStepsx11
import Derived.Test.YtoonddgldmfleaaQPureSchedSteps
import Derived.Test.YtoonddgldmfleaaVOpn
import Derived.WalkKit
import Derived.ProofKit
import Derived.OpenShut
import Derived.ShutString
import Derived.ChangeOld
import Derived.Below
import Derived.SizedLaws
import Derived.Test.YtoonddgldmfleaaVSized
namespace Go.Proofs.Ytoonddgldmfleaa.schedSteps
open Go.ChangeShapes Go.WideShapes Go.ChangeAt Go.RowKit Go.Proofs.Ytoonddgldmfleaa.Opn Go.Proofs.YtoonddgldmfleaaW.PrintWords Go.Proofs.Ytoonddgldmfleaa.QSchedSteps
open Go.ChangeMaps (open_string shut_string)
set_option linter.unusedVariables false
theorem own : ownKnob Try.prog.godebug = none := by kernel_rfl
theorem laidOut : laidOutB Try.prog = true := by kernel_rfl
set_option maxRecDepth 100000 in
set_option maxHeartbeats 4000000 in
theorem lifted (os : Os) (started : os.Started) (H : Type) (enc : TypeId × Value → H) :
    ReturnsInHanded {} Try.checked os 11 .any (Rows.schedStepsSpec.pre6 enc Try.prog Try.f11 Rows.schedStepsRow.domain false) (Rows.schedStepsSpec.post enc Try.prog Try.f11 false true false false) := by
  refine returnsInHanded_of_change_sized (C := Try.checked) own started (by kernel_rfl) Try.func11
    (ChangeSpec.witness6 (enc := enc) (C := Try.checked) false ⟨#[], #[.agg #[.int .i64 0, .int .i64 0, .int .i64 0, .slice none 0 0, .slice none 0 0, .bool false], .int .i64 0], []⟩ 8 (by kernel_rfl) (by kernel_rfl) (by kernel_rfl) (by kernel_rfl)) ?_
  intro W base args ds gs before hval0 hW hcnd hsz0 _
  have hsz : (DataW.weightsEach Try.prog (Try.f11.params.toList ++ Rows.schedStepsSpec.plain.varTypes Try.prog) (ds ++ gs)).all (· ≤ reachBytes) = true := hsz0
  have hval : ∀ (j : Nat) t v, Try.f11.params[j]? = some t → args[j]? = some v → Value.okWide Try.prog W .any base t v := hval0
  have hW' := hW
  obtain ⟨p, q, hA0, hV, rfl, hfz, hnd⟩ := hW
  have hA : DataW.TrodAll enc Try.prog W 0 (fun _ => true) true Try.f11.params.toList args.toList ds p := hA0
  rw [Try.params11] at hA hval hsz
  obtain ⟨v0, vs0, d0, ds0, p0, q0, hargs, rfl, rfl, h0, r0⟩ := trodAll_cons hA
  obtain ⟨v1, vs1, d1, ds1, p1, q1, rfl, rfl, rfl, h1, r1⟩ := trodAll_cons r0
  obtain ⟨rfl, rfl, rfl⟩ := trodAll_nil r1
  obtain rfl : args = #[v0, v1] := by cases args; simp_all
  obtain ⟨rfl, rfl⟩ := trodVars_none hV
  obtain ⟨cs0, rfl, _⟩ := okWide_struct Try.underlying42 (hval 0 42 v0 rfl rfl)
  obtain ⟨cl0⟩ := cs0
  have k0 := h0
  have lt0 : ∀ x ∈ p0, x.block < W.heap.size := by obtain ⟨m, hm⟩ := k0; exact DataW.trod_lt m _ _ _ hm
  obtain ⟨y0, hK0, hg0⟩ : ∃ y : S42, k42.K W y cl0 ∧ ((Lit.int .i64 y.f0).wf = true ∧ ((Lit.int .i64 y.f1).wf = true ∧ ((Lit.int .i64 y.f2).wf = true ∧ ((y.f3.length ≤ maxLen ∧ ∀ v0 ∈ y.f3, (Lit.int .i64 v0).wf = true) ∧ ((y.f4.length ≤ maxLen ∧ ∀ v0 ∈ y.f4, True) ∧ True))))) := by
    obtain ⟨fuel, hf⟩ := h0
    have o : Opens enc Try.prog W 0 (fun _ => true) true 42 k42 (fun y : (S42) => ((Lit.int .i64 y.f0).wf = true ∧ ((Lit.int .i64 y.f1).wf = true ∧ ((Lit.int .i64 y.f2).wf = true ∧ ((y.f3.length ≤ maxLen ∧ ∀ v0 ∈ y.f3, (Lit.int .i64 v0).wf = true) ∧ ((y.f4.length ≤ maxLen ∧ ∀ v0 ∈ y.f4, True) ∧ True)))))) := by
      refine opens_struct (total := 6) (d := (Kd.pair (Kd.int .i64) (Kd.pair (Kd.int .i64) (Kd.pair (Kd.int .i64) (Kd.pair (Kd.slice 3 (Kd.int .i64)) (Kd.pair (Kd.slice 4 Kd.bool) Kd.bool)))))) (good := fun y : ((Int) × ((Int) × ((Int) × ((List Int) × ((List Bool) × (Bool)))))) => ((Lit.int .i64 y.1).wf = true ∧ ((Lit.int .i64 y.2.1).wf = true ∧ ((Lit.int .i64 y.2.2.1).wf = true ∧ ((y.2.2.2.1.length ≤ maxLen ∧ ∀ v0 ∈ y.2.2.2.1, (Lit.int .i64 v0).wf = true) ∧ ((y.2.2.2.2.1.length ≤ maxLen ∧ ∀ v0 ∈ y.2.2.2.2.1, True) ∧ True)))))) (g := fun y : S42 => ((Lit.int .i64 y.f0).wf = true ∧ ((Lit.int .i64 y.f1).wf = true ∧ ((Lit.int .i64 y.f2).wf = true ∧ ((y.f3.length ≤ maxLen ∧ ∀ v0 ∈ y.f3, (Lit.int .i64 v0).wf = true) ∧ ((y.f4.length ≤ maxLen ∧ ∀ v0 ∈ y.f4, True) ∧ True)))))) (fun x : S42 => (x.f0, x.f1, x.f2, x.f3, x.f4, x.f5)) (fun y => (⟨y.1, y.2.1, y.2.2.1, y.2.2.2.1, y.2.2.2.2.1, y.2.2.2.2.2⟩ : S42)) (fun _ => rfl) (fun _ h => h) Try.underlying42 (by kernel_rfl) ?_
      refine tail_cons (j := 0) (off := 0) (off2 := 1) (d := (Kd.int .i64)) (d2 := (Kd.pair (Kd.int .i64) (Kd.pair (Kd.int .i64) (Kd.pair (Kd.slice 3 (Kd.int .i64)) (Kd.pair (Kd.slice 4 Kd.bool) Kd.bool))))) (good := fun y : (Int) => (Lit.int .i64 y).wf = true) (good2 := fun y : ((Int) × ((Int) × ((List Int) × ((List Bool) × (Bool))))) => ((Lit.int .i64 y.1).wf = true ∧ ((Lit.int .i64 y.2.1).wf = true ∧ ((y.2.2.1.length ≤ maxLen ∧ ∀ v0 ∈ y.2.2.1, (Lit.int .i64 v0).wf = true) ∧ ((y.2.2.2.1.length ≤ maxLen ∧ ∀ v0 ∈ y.2.2.2.1, True) ∧ True))))) rfl rfl (by kernel_rfl) rfl ?_ ?_
      · exact opens_int Try.underlying3
      refine tail_cons (j := 1) (off := 1) (off2 := 2) (d := (Kd.int .i64)) (d2 := (Kd.pair (Kd.int .i64) (Kd.pair (Kd.slice 3 (Kd.int .i64)) (Kd.pair (Kd.slice 4 Kd.bool) Kd.bool)))) (good := fun y : (Int) => (Lit.int .i64 y).wf = true) (good2 := fun y : ((Int) × ((List Int) × ((List Bool) × (Bool)))) => ((Lit.int .i64 y.1).wf = true ∧ ((y.2.1.length ≤ maxLen ∧ ∀ v0 ∈ y.2.1, (Lit.int .i64 v0).wf = true) ∧ ((y.2.2.1.length ≤ maxLen ∧ ∀ v0 ∈ y.2.2.1, True) ∧ True)))) rfl rfl (by kernel_rfl) rfl ?_ ?_
      · exact opens_int Try.underlying3
      refine tail_cons (j := 2) (off := 2) (off2 := 3) (d := (Kd.int .i64)) (d2 := (Kd.pair (Kd.slice 3 (Kd.int .i64)) (Kd.pair (Kd.slice 4 Kd.bool) Kd.bool))) (good := fun y : (Int) => (Lit.int .i64 y).wf = true) (good2 := fun y : ((List Int) × ((List Bool) × (Bool))) => ((y.1.length ≤ maxLen ∧ ∀ v0 ∈ y.1, (Lit.int .i64 v0).wf = true) ∧ ((y.2.1.length ≤ maxLen ∧ ∀ v0 ∈ y.2.1, True) ∧ True))) rfl rfl (by kernel_rfl) rfl ?_ ?_
      · exact opens_int Try.underlying3
      refine tail_cons (j := 3) (off := 3) (off2 := 4) (d := (Kd.slice 3 (Kd.int .i64))) (d2 := (Kd.pair (Kd.slice 4 Kd.bool) Kd.bool)) (good := fun y : (List Int) => (y.length ≤ maxLen ∧ ∀ v0 ∈ y, (Lit.int .i64 v0).wf = true)) (good2 := fun y : ((List Bool) × (Bool)) => ((y.1.length ≤ maxLen ∧ ∀ v0 ∈ y.1, True) ∧ True)) rfl rfl (by kernel_rfl) rfl ?_ ?_
      · refine opens_slice (d := (Kd.int .i64)) (good := fun y : (Int) => (Lit.int .i64 y).wf = true) Try.underlying38 (by kernel_rfl) ?_
        exact opens_int Try.underlying3
      refine tail_cons (j := 4) (off := 4) (off2 := 5) (d := (Kd.slice 4 Kd.bool)) (d2 := Kd.bool) (good := fun y : (List Bool) => (y.length ≤ maxLen ∧ ∀ v0 ∈ y, True)) (good2 := fun y : (Bool) => True) rfl rfl (by kernel_rfl) rfl ?_ ?_
      · refine opens_slice (d := Kd.bool) (good := fun y : (Bool) => True) Try.underlying40 (by kernel_rfl) ?_
        exact opens_bool Try.underlying4
      refine tail_last (j := 5) (off := 5) (d := Kd.bool) (good := fun y : (Bool) => True) rfl rfl (by kernel_rfl) rfl ?_
      exact opens_bool Try.underlying4
    exact o fuel _ _ hf
  obtain ⟨_, _, rfl, rfl, ⟨_, _, rfl, rfl, ⟨_, _, rfl, rfl, ⟨_, _, rfl, ⟨A0_1, c0_1, rfl, hc0_1, hr0_1⟩, ⟨_, _, rfl, ⟨A0_2, c0_2, rfl, hc0_2, hr0_2⟩, rfl⟩⟩⟩⟩⟩ := hK0
  obtain ⟨a1, rfl, rfl, rfl, w1⟩ := open_int Try.underlying3 (hval 1 3 v1 rfl rfl) h1
  clear hA0 hval0 hsz0 hsz
  obtain ⟨k, h⟩ := Pure.SchedSteps y0.f0 y0.f1 y0.f2 y0.f3 y0.f4 y0.f5 a1 hg0.1 hg0.2.1 hg0.2.2.1 hg0.2.2.2.1 hg0.2.2.2.2.1 w1
  refine (hornbeamlaw21_SchedSteps.calls k y0.f0 y0.f1 y0.f2 _ _ y0.f3 _ _ y0.f4 y0.f5 a1 true W hr0_1 hc0_1 hr0_2 hc0_2 h rfl).mono fun e W' ⟨he, hd⟩ => ?_
  have bel : Below W.heap.size W W' := hd
  subst he
  exact ⟨_, rfl, _, _, _, [], _, [], hW', trodAll_mk1 (shut_bool Try.underlying4 _), (trodAll_cons_mk (Below.trod laidOut (by kernel_rfl) (of_decide_eq_true (by kernel_rfl)) k0 bel lt0) (trodAll_cons_mk (shut_int Try.underlying3 w1) trodAll_mk0)), rfl, bel.frame _, fun h => by cases h⟩
theorem over : Rows.schedStepsRow.holds Try.pinned (OpenSpec.ofChange Rows.schedStepsSpec) :=
  OpenClaim.holds_of_wide 11 Try.f11 rfl rfl rfl rfl rfl rfl rfl ⟨rfl, rfl, rfl, rfl, rfl⟩ rfl rfl rfl rfl rfl (by kernel_rfl) Try.func11 (by kernel_rfl)
    (of_decide_eq_true (by kernel_rfl)) (by unfold Func.isWrapper; first | (rw [if_pos (by decide +kernel)]; kernel_rfl) | (rw [if_neg (by decide +kernel)]; exact ⟨rfl, rfl⟩))
    (fun os started H enc _ => lifted os started H enc)
theorem proved : Rows.SchedStepsSaid := over
#print axioms proved
end Go.Proofs.Ytoonddgldmfleaa.schedSteps
namespace Go.Proofs.Ytoonddgldmfleaa
/-- The row, under a short name, for the claim. -/
theorem schedSteps_holds : Rows.SchedStepsSaid := schedSteps.proved
end Go.Proofs.Ytoonddgldmfleaa
