-- Written by a program of this session (wip/tools/mkprint.py over the kit's print); Lean checks it.
import Derived.Test.YtoonddgldmfleaaRows
import Derived.Test.YtoonddgldmfleaaQSpreadShiftx6
import Derived.Test.YtoonddgldmfleaaQPureSpreadShift
import Derived.Test.YtoonddgldmfleaaOpn
import Derived.WalkKit
import Derived.ProofKit
import Derived.OpenShut
import Derived.ShutString
import Derived.ChangeOld
import Derived.Below
import Derived.SizedLaws
import Derived.Test.YtoonddgldmfleaaWSized
namespace Go.Proofs.Ytoonddgldmfleaa.spreadShift
open Go.ChangeShapes Go.WideShapes Go.ChangeAt Go.RowKit Go.Proofs.Ytoonddgldmfleaa.Opn Go.Proofs.YtoonddgldmfleaaW.PrintWords Go.Proofs.Ytoonddgldmfleaa.QSpreadShift
open Go.ChangeMaps (open_string shut_string)
set_option linter.unusedVariables false
theorem own : ownKnob Try.prog.godebug = none := by kernel_rfl
theorem laidOut : laidOutB Try.prog = true := by kernel_rfl
set_option maxRecDepth 100000 in
set_option maxHeartbeats 4000000 in
theorem lifted (os : Os) (started : os.Started) (H : Type) (enc : TypeId × Value → H) :
    ReturnsInHanded {} Try.checked os 8 .any (Rows.spreadShiftSpec.pre6 enc Try.prog Try.f8 Rows.spreadShiftRow.domain false) (Rows.spreadShiftSpec.post enc Try.prog Try.f8 false true false false) := by
  refine returnsInHanded_of_change_sized (C := Try.checked) own started (by kernel_rfl) Try.func8
    (ChangeSpec.witness6 (enc := enc) (C := Try.checked) false ⟨#[], #[.agg #[.slice none 0 0, .slice none 0 0, .slice none 0 0], .int .i32 0], []⟩ 8 (by kernel_rfl) (by kernel_rfl) (by kernel_rfl) (by kernel_rfl)) ?_
  intro W base args ds gs before hval0 hW hcnd hsz0 _
  have hsz : (DataW.weightsEach Try.prog (Try.f8.params.toList ++ Rows.spreadShiftSpec.plain.varTypes Try.prog) (ds ++ gs)).all (· ≤ reachBytes) = true := hsz0
  have hval : ∀ (j : Nat) t v, Try.f8.params[j]? = some t → args[j]? = some v → Value.okWide Try.prog W .any base t v := hval0
  have hW' := hW
  obtain ⟨p, q, hA0, hV, rfl, hfz, hnd⟩ := hW
  have hA : DataW.TrodAll enc Try.prog W 0 (fun _ => true) true Try.f8.params.toList args.toList ds p := hA0
  rw [Try.params8] at hA hval hsz
  obtain ⟨v0, vs0, d0, ds0, p0, q0, hargs, rfl, rfl, h0, r0⟩ := trodAll_cons hA
  obtain ⟨v1, vs1, d1, ds1, p1, q1, rfl, rfl, rfl, h1, r1⟩ := trodAll_cons r0
  obtain ⟨rfl, rfl, rfl⟩ := trodAll_nil r1
  obtain rfl : args = #[v0, v1] := by cases args; simp_all
  obtain ⟨rfl, rfl⟩ := trodVars_none hV
  obtain ⟨cs0, rfl, _⟩ := okWide_arr Try.underlying56 (hval 0 56 v0 rfl rfl)
  obtain ⟨cl0⟩ := cs0
  have k0 := h0
  have lt0 : ∀ x ∈ p0, x.block < W.heap.size := by obtain ⟨m, hm⟩ := k0; exact DataW.trod_lt m _ _ _ hm
  obtain ⟨y0, hK0, hg0⟩ : ∃ y : S56, k56.K W y cl0 ∧ ((y.f0.length ≤ maxLen ∧ ∀ v0 ∈ y.f0, (Lit.int .i64 v0).wf = true) ∧ ((y.f1.length ≤ maxLen ∧ ∀ v0 ∈ y.f1, (Lit.int .i64 v0).wf = true) ∧ (y.f2.length ≤ maxLen ∧ ∀ v0 ∈ y.f2, (Lit.int .i64 v0).wf = true))) := by
    obtain ⟨fuel, hf⟩ := h0
    have o : Opens enc Try.prog W 0 (fun _ => true) true 56 k56 (fun y : (S56) => ((y.f0.length ≤ maxLen ∧ ∀ v0 ∈ y.f0, (Lit.int .i64 v0).wf = true) ∧ ((y.f1.length ≤ maxLen ∧ ∀ v0 ∈ y.f1, (Lit.int .i64 v0).wf = true) ∧ (y.f2.length ≤ maxLen ∧ ∀ v0 ∈ y.f2, (Lit.int .i64 v0).wf = true)))) := by
      refine opens_array (total := 3) (d := (Kd.pair (Kd.slice 2 (Kd.int .i64)) (Kd.pair (Kd.slice 2 (Kd.int .i64)) (Kd.slice 2 (Kd.int .i64))))) (good := fun y : ((List Int) × ((List Int) × (List Int))) => ((y.1.length ≤ maxLen ∧ ∀ v0 ∈ y.1, (Lit.int .i64 v0).wf = true) ∧ ((y.2.1.length ≤ maxLen ∧ ∀ v0 ∈ y.2.1, (Lit.int .i64 v0).wf = true) ∧ (y.2.2.length ≤ maxLen ∧ ∀ v0 ∈ y.2.2, (Lit.int .i64 v0).wf = true)))) (g := fun y : S56 => ((y.f0.length ≤ maxLen ∧ ∀ v0 ∈ y.f0, (Lit.int .i64 v0).wf = true) ∧ ((y.f1.length ≤ maxLen ∧ ∀ v0 ∈ y.f1, (Lit.int .i64 v0).wf = true) ∧ (y.f2.length ≤ maxLen ∧ ∀ v0 ∈ y.f2, (Lit.int .i64 v0).wf = true)))) (fun x : S56 => (x.f0, x.f1, x.f2)) (fun y => (⟨y.1, y.2.1, y.2.2⟩ : S56)) (fun _ => rfl) (fun _ h => h) Try.underlying56 (by kernel_rfl) ?_
      refine atail_cons (j := 0) (off := 0) (off2 := 1) (d := (Kd.slice 2 (Kd.int .i64))) (d2 := (Kd.pair (Kd.slice 2 (Kd.int .i64)) (Kd.slice 2 (Kd.int .i64)))) (good := fun y : (List Int) => (y.length ≤ maxLen ∧ ∀ v0 ∈ y, (Lit.int .i64 v0).wf = true)) (good2 := fun y : ((List Int) × (List Int)) => ((y.1.length ≤ maxLen ∧ ∀ v0 ∈ y.1, (Lit.int .i64 v0).wf = true) ∧ (y.2.length ≤ maxLen ∧ ∀ v0 ∈ y.2, (Lit.int .i64 v0).wf = true))) (by decide) (by kernel_rfl) (by kernel_rfl) rfl ?_ ?_
      · refine opens_slice (d := (Kd.int .i64)) (good := fun y : (Int) => (Lit.int .i64 y).wf = true) Try.underlying22 (by kernel_rfl) ?_
        exact opens_int Try.underlying2
      refine atail_cons (j := 1) (off := 1) (off2 := 2) (d := (Kd.slice 2 (Kd.int .i64))) (d2 := (Kd.slice 2 (Kd.int .i64))) (good := fun y : (List Int) => (y.length ≤ maxLen ∧ ∀ v0 ∈ y, (Lit.int .i64 v0).wf = true)) (good2 := fun y : (List Int) => (y.length ≤ maxLen ∧ ∀ v0 ∈ y, (Lit.int .i64 v0).wf = true)) (by decide) (by kernel_rfl) (by kernel_rfl) rfl ?_ ?_
      · refine opens_slice (d := (Kd.int .i64)) (good := fun y : (Int) => (Lit.int .i64 y).wf = true) Try.underlying22 (by kernel_rfl) ?_
        exact opens_int Try.underlying2
      refine atail_last (j := 2) (off := 2) (d := (Kd.slice 2 (Kd.int .i64))) (good := fun y : (List Int) => (y.length ≤ maxLen ∧ ∀ v0 ∈ y, (Lit.int .i64 v0).wf = true)) (by decide) (by kernel_rfl) (by kernel_rfl) rfl ?_
      refine opens_slice (d := (Kd.int .i64)) (good := fun y : (Int) => (Lit.int .i64 y).wf = true) Try.underlying22 (by kernel_rfl) ?_
      exact opens_int Try.underlying2
    exact o fuel _ _ hf
  obtain ⟨_, _, rfl, ⟨A0_1, c0_1, rfl, hc0_1, hr0_1⟩, ⟨_, _, rfl, ⟨A0_2, c0_2, rfl, hc0_2, hr0_2⟩, ⟨A0_3, c0_3, rfl, hc0_3, hr0_3⟩⟩⟩ := hK0
  obtain ⟨a1, rfl, rfl, rfl, w1⟩ := open_int Try.underlying21 (hval 1 21 v1 rfl rfl) h1
  clear hA0 hval0 hsz0 hsz
  obtain ⟨k, h⟩ := Pure.SpreadShift y0.f0 y0.f1 y0.f2 a1 hg0.1 hg0.2.1 hg0.2.2 w1
  refine (hornbeamlaw15_SpreadShift.calls k _ _ y0.f0 _ _ y0.f1 _ _ y0.f2 a1 true W hr0_1 hc0_1 hr0_2 hc0_2 hr0_3 hc0_3 h rfl).mono fun e W' ⟨he, hd⟩ => ?_
  have bel : Below W.heap.size W W' := hd
  subst he
  exact ⟨_, rfl, _, _, _, [], _, [], hW', trodAll_mk1 (shut_bool Try.underlying4 _), (trodAll_cons_mk (Below.trod laidOut (by kernel_rfl) (of_decide_eq_true (by kernel_rfl)) k0 bel lt0) (trodAll_cons_mk (shut_int Try.underlying21 w1) trodAll_mk0)), rfl, bel.frame _, fun h => by cases h⟩
theorem over : Rows.spreadShiftRow.holds Try.pinned (OpenSpec.ofChange Rows.spreadShiftSpec) :=
  OpenClaim.holds_of_wide 8 Try.f8 rfl rfl rfl rfl rfl rfl rfl ⟨rfl, rfl, rfl, rfl, rfl⟩ rfl rfl rfl rfl rfl (by kernel_rfl) Try.func8 (by kernel_rfl)
    (of_decide_eq_true (by kernel_rfl)) (by unfold Func.isWrapper; first | (rw [if_pos (by decide +kernel)]; kernel_rfl) | (rw [if_neg (by decide +kernel)]; exact ⟨rfl, rfl⟩))
    (fun os started H enc _ => lifted os started H enc)
theorem proved : Rows.SpreadShiftSaid := over
#print axioms proved
end Go.Proofs.Ytoonddgldmfleaa.spreadShift
namespace Go.Proofs.Ytoonddgldmfleaa
/-- The row, under a short name, for the claim. -/
theorem spreadShift_holds : Rows.SpreadShiftSaid := spreadShift.proved
end Go.Proofs.Ytoonddgldmfleaa
