-- Written by a program of this session (wip/tools/mkprint.py over the kit's print); Lean checks it.
import Derived.Test.YtglicbpnmehloaaRows
import Derived.Test.YtglicbpnmehloaaQProdWidesx8
import Derived.Test.YtglicbpnmehloaaQPureProdWides
import Derived.Test.YtglicbpnmehloaaOpn
import Derived.WalkKit
import Derived.ProofKit
import Derived.OpenShut
import Derived.ShutString
import Derived.ChangeOld
import Derived.Below
import Derived.SizedLaws
import Derived.Test.YtglicbpnmehloaaWSized
namespace Go.Proofs.Ytglicbpnmehloaa.prodWides
open Go.ChangeShapes Go.WideShapes Go.ChangeAt Go.RowKit Go.Proofs.Ytglicbpnmehloaa.Opn Go.Proofs.YtglicbpnmehloaaW.PrintWords Go.Proofs.Ytglicbpnmehloaa.QProdWides
open Go.ChangeMaps (open_string shut_string)
set_option linter.unusedVariables false
theorem own : ownKnob Try.prog.godebug = none := by kernel_rfl
theorem laidOut : laidOutB Try.prog = true := by kernel_rfl
set_option maxRecDepth 100000 in
set_option maxHeartbeats 4000000 in
theorem lifted (os : Os) (started : os.Started) (H : Type) (enc : TypeId × Value → H) :
    ReturnsInHanded {} Try.checked os 10 .any (Rows.prodWidesSpec.pre6 enc Try.prog Try.f10 Rows.prodWidesRow.domain false) (Rows.prodWidesSpec.post enc Try.prog Try.f10 false true false false) := by
  refine returnsInHanded_of_change_sized (C := Try.checked) own started (by kernel_rfl) Try.func10
    (ChangeSpec.witness6 (enc := enc) (C := Try.checked) false ⟨#[], #[.agg #[.int .u64 0, .int .u64 0], .agg #[.int .u64 0, .int .u64 0], .int .u64 0], []⟩ 8 (by kernel_rfl) (by kernel_rfl) (by kernel_rfl) (by kernel_rfl)) ?_
  intro W base args ds gs before hval0 hW hcnd hsz0 _
  have hsz : (DataW.weightsEach Try.prog (Try.f10.params.toList ++ Rows.prodWidesSpec.plain.varTypes Try.prog) (ds ++ gs)).all (· ≤ reachBytes) = true := hsz0
  have hval : ∀ (j : Nat) t v, Try.f10.params[j]? = some t → args[j]? = some v → Value.okWide Try.prog W .any base t v := hval0
  have hW' := hW
  obtain ⟨p, q, hA0, hV, rfl, hfz, hnd⟩ := hW
  have hA : DataW.TrodAll enc Try.prog W 0 (fun _ => true) true Try.f10.params.toList args.toList ds p := hA0
  rw [Try.params10] at hA hval hsz
  obtain ⟨v0, vs0, d0, ds0, p0, q0, hargs, rfl, rfl, h0, r0⟩ := trodAll_cons hA
  obtain ⟨v1, vs1, d1, ds1, p1, q1, rfl, rfl, rfl, h1, r1⟩ := trodAll_cons r0
  obtain ⟨v2, vs2, d2, ds2, p2, q2, rfl, rfl, rfl, h2, r2⟩ := trodAll_cons r1
  obtain ⟨rfl, rfl, rfl⟩ := trodAll_nil r2
  obtain rfl : args = #[v0, v1, v2] := by cases args; simp_all
  obtain ⟨rfl, rfl⟩ := trodVars_none hV
  obtain ⟨cs0, rfl, _⟩ := okWide_struct Try.underlying38 (hval 0 38 v0 rfl rfl)
  obtain ⟨cl0⟩ := cs0
  have k0 := h0
  have lt0 : ∀ x ∈ p0, x.block < W.heap.size := by obtain ⟨m, hm⟩ := k0; exact DataW.trod_lt m _ _ _ hm
  obtain ⟨y0, hK0, hg0⟩ : ∃ y : S38, k38.K W y cl0 ∧ ((Lit.int .u64 y.f0).wf = true ∧ (Lit.int .u64 y.f1).wf = true) := by
    obtain ⟨fuel, hf⟩ := h0
    have o : Opens enc Try.prog W 0 (fun _ => true) true 38 k38 (fun y => ((Lit.int .u64 y.f0).wf = true ∧ (Lit.int .u64 y.f1).wf = true)) := by
      refine opens_struct (total := 2) (d := (Kd.pair (Kd.int .u64) (Kd.int .u64))) (good := fun y => ((Lit.int .u64 y.1).wf = true ∧ (Lit.int .u64 y.2).wf = true)) (g := fun y : S38 => ((Lit.int .u64 y.f0).wf = true ∧ (Lit.int .u64 y.f1).wf = true)) (fun x : S38 => (x.f0, x.f1)) (fun y => (⟨y.1, y.2⟩ : S38)) (fun _ => rfl) (fun _ h => h) Try.underlying38 (by kernel_rfl) ?_
      refine tail_cons (j := 0) (off := 0) (off2 := 1) (d := (Kd.int .u64)) (d2 := (Kd.int .u64)) (good := fun y => (Lit.int .u64 y).wf = true) (good2 := fun y => (Lit.int .u64 y).wf = true) rfl rfl (by kernel_rfl) rfl ?_ ?_
      · exact opens_int Try.underlying26
      refine tail_last (j := 1) (off := 1) (d := (Kd.int .u64)) (good := fun y => (Lit.int .u64 y).wf = true) rfl rfl (by kernel_rfl) rfl ?_
      exact opens_int Try.underlying26
    exact o fuel _ _ hf
  obtain ⟨_, _, rfl, rfl, rfl⟩ := hK0
  obtain ⟨cs1, rfl, _⟩ := okWide_struct Try.underlying38 (hval 1 38 v1 rfl rfl)
  obtain ⟨cl1⟩ := cs1
  have k1 := h1
  have lt1 : ∀ x ∈ p1, x.block < W.heap.size := by obtain ⟨m, hm⟩ := k1; exact DataW.trod_lt m _ _ _ hm
  obtain ⟨y1, hK1, hg1⟩ : ∃ y : S38, k38.K W y cl1 ∧ ((Lit.int .u64 y.f0).wf = true ∧ (Lit.int .u64 y.f1).wf = true) := by
    obtain ⟨fuel, hf⟩ := h1
    have o : Opens enc Try.prog W 0 (fun _ => true) true 38 k38 (fun y => ((Lit.int .u64 y.f0).wf = true ∧ (Lit.int .u64 y.f1).wf = true)) := by
      refine opens_struct (total := 2) (d := (Kd.pair (Kd.int .u64) (Kd.int .u64))) (good := fun y => ((Lit.int .u64 y.1).wf = true ∧ (Lit.int .u64 y.2).wf = true)) (g := fun y : S38 => ((Lit.int .u64 y.f0).wf = true ∧ (Lit.int .u64 y.f1).wf = true)) (fun x : S38 => (x.f0, x.f1)) (fun y => (⟨y.1, y.2⟩ : S38)) (fun _ => rfl) (fun _ h => h) Try.underlying38 (by kernel_rfl) ?_
      refine tail_cons (j := 0) (off := 0) (off2 := 1) (d := (Kd.int .u64)) (d2 := (Kd.int .u64)) (good := fun y => (Lit.int .u64 y).wf = true) (good2 := fun y => (Lit.int .u64 y).wf = true) rfl rfl (by kernel_rfl) rfl ?_ ?_
      · exact opens_int Try.underlying26
      refine tail_last (j := 1) (off := 1) (d := (Kd.int .u64)) (good := fun y => (Lit.int .u64 y).wf = true) rfl rfl (by kernel_rfl) rfl ?_
      exact opens_int Try.underlying26
    exact o fuel _ _ hf
  obtain ⟨_, _, rfl, rfl, rfl⟩ := hK1
  obtain ⟨a2, rfl, rfl, rfl, w2⟩ := open_int Try.underlying26 (hval 2 26 v2 rfl rfl) h2
  clear hA0 hval0 hsz0 hsz
  obtain ⟨k, h⟩ := Pure.ProdWides y0.f0 y0.f1 y1.f0 y1.f1 a2 hg0.1 hg0.2 hg1.1 hg1.2 w2
  refine (hornbeamlaw04_ProdWides.calls k y0.f0 y0.f1 y1.f0 y1.f1 a2 true W  h rfl).mono fun e W' ⟨he, hd⟩ => ?_
  have bel : Below W.heap.size W W' := hd
  subst he
  exact ⟨_, rfl, _, _, _, [], _, [], hW', trodAll_mk1 (shut_bool Try.underlying4 _), (trodAll_cons_mk (Below.trod laidOut (by kernel_rfl) (of_decide_eq_true (by kernel_rfl)) k0 bel lt0) (trodAll_cons_mk (Below.trod laidOut (by kernel_rfl) (of_decide_eq_true (by kernel_rfl)) k1 bel lt1) (trodAll_cons_mk (shut_int Try.underlying26 w2) trodAll_mk0))), rfl, bel.frame _, fun h => by cases h⟩
theorem over : Rows.prodWidesRow.holds Try.pinned (OpenSpec.ofChange Rows.prodWidesSpec) :=
  OpenClaim.holds_of_wide 10 Try.f10 rfl rfl rfl rfl rfl rfl rfl ⟨rfl, rfl, rfl, rfl, rfl⟩ rfl rfl rfl rfl rfl (by kernel_rfl) Try.func10 (by kernel_rfl)
    (of_decide_eq_true (by kernel_rfl)) (by unfold Func.isWrapper; first | (rw [if_pos (by decide +kernel)]; kernel_rfl) | (rw [if_neg (by decide +kernel)]; exact ⟨rfl, rfl⟩))
    (fun os started H enc _ => lifted os started H enc)
theorem proved : Rows.ProdWidesSaid := over
#print axioms proved
end Go.Proofs.Ytglicbpnmehloaa.prodWides
namespace Go.Proofs.Ytglicbpnmehloaa
/-- The row, under a short name, for the claim. -/
theorem prodWides_holds : Rows.ProdWidesSaid := prodWides.proved
end Go.Proofs.Ytglicbpnmehloaa
