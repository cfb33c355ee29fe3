-- Written by a program of this session (wip/tools/mkprint.py over the kit's print); Lean checks it.
import Derived.Test.YtglicbpnmehloaaRows
import Derived.Test.YtglicbpnmehloaaQVoteVotesx3
import Derived.Test.YtglicbpnmehloaaQPureVoteVotes
import Derived.Test.YtglicbpnmehloaaOpn
import Derived.WalkKit
import Derived.ProofKit
import Derived.OpenShut
import Derived.ShutString
import Derived.ChangeOld
import Derived.Below
import Derived.SizedLaws
import Derived.Test.YtglicbpnmehloaaWSized
namespace Go.Proofs.Ytglicbpnmehloaa.voteVotes
open Go.ChangeShapes Go.WideShapes Go.ChangeAt Go.RowKit Go.Proofs.Ytglicbpnmehloaa.Opn Go.Proofs.YtglicbpnmehloaaW.PrintWords Go.Proofs.Ytglicbpnmehloaa.QVoteVotes
open Go.ChangeMaps (open_string shut_string)
set_option linter.unusedVariables false
theorem own : ownKnob Try.prog.godebug = none := by kernel_rfl
theorem laidOut : laidOutB Try.prog = true := by kernel_rfl
set_option maxRecDepth 100000 in
set_option maxHeartbeats 4000000 in
theorem lifted (os : Os) (started : os.Started) (H : Type) (enc : TypeId × Value → H) :
    ReturnsInHanded {} Try.checked os 8 .any (Rows.voteVotesSpec.pre6 enc Try.prog Try.f8 Rows.voteVotesRow.domain false) (Rows.voteVotesSpec.post enc Try.prog Try.f8 false true false false) := by
  refine returnsInHanded_of_change_sized (C := Try.checked) own started (by kernel_rfl) Try.func8
    (ChangeSpec.witness6 (enc := enc) (C := Try.checked) false ⟨#[], #[.agg #[.int .i64 0, .int .i64 0, .int .i64 0, .int .i64 0, .int .i64 0, .int .i64 0, .int .i64 0], .slice none 0 0], []⟩ 8 (by kernel_rfl) (by kernel_rfl) (by kernel_rfl) (by kernel_rfl)) ?_
  intro W base args ds gs before hval0 hW hcnd hsz0 _
  have hsz : (DataW.weightsEach Try.prog (Try.f8.params.toList ++ Rows.voteVotesSpec.plain.varTypes Try.prog) (ds ++ gs)).all (· ≤ reachBytes) = true := hsz0
  have hval : ∀ (j : Nat) t v, Try.f8.params[j]? = some t → args[j]? = some v → Value.okWide Try.prog W .any base t v := hval0
  have hW' := hW
  obtain ⟨p, q, hA0, hV, rfl, hfz, hnd⟩ := hW
  have hA : DataW.TrodAll enc Try.prog W 0 (fun _ => true) true Try.f8.params.toList args.toList ds p := hA0
  rw [Try.params8] at hA hval hsz
  obtain ⟨v0, vs0, d0, ds0, p0, q0, hargs, rfl, rfl, h0, r0⟩ := trodAll_cons hA
  obtain ⟨v1, vs1, d1, ds1, p1, q1, rfl, rfl, rfl, h1, r1⟩ := trodAll_cons r0
  obtain ⟨rfl, rfl, rfl⟩ := trodAll_nil r1
  obtain rfl : args = #[v0, v1] := by cases args; simp_all
  obtain ⟨rfl, rfl⟩ := trodVars_none hV
  obtain ⟨cs0, rfl, _⟩ := okWide_struct Try.underlying43 (hval 0 43 v0 rfl rfl)
  obtain ⟨cl0⟩ := cs0
  have k0 := h0
  have lt0 : ∀ x ∈ p0, x.block < W.heap.size := by obtain ⟨m, hm⟩ := k0; exact DataW.trod_lt m _ _ _ hm
  obtain ⟨y0, hK0, hg0⟩ : ∃ y : S43, k43.K W y cl0 ∧ ((Lit.int .i64 y.f0).wf = true ∧ ((Lit.int .i64 y.f1).wf = true ∧ ((Lit.int .i64 y.f2).wf = true ∧ ((Lit.int .i64 y.f3).wf = true ∧ ((Lit.int .i64 y.f4).wf = true ∧ ((Lit.int .i64 y.f5).wf = true ∧ (Lit.int .i64 y.f6).wf = true)))))) := by
    obtain ⟨fuel, hf⟩ := h0
    have o : Opens enc Try.prog W 0 (fun _ => true) true 43 k43 (fun y : (S43) => ((Lit.int .i64 y.f0).wf = true ∧ ((Lit.int .i64 y.f1).wf = true ∧ ((Lit.int .i64 y.f2).wf = true ∧ ((Lit.int .i64 y.f3).wf = true ∧ ((Lit.int .i64 y.f4).wf = true ∧ ((Lit.int .i64 y.f5).wf = true ∧ (Lit.int .i64 y.f6).wf = true))))))) := by
      refine opens_struct (total := 7) (d := (Kd.pair (Kd.int .i64) (Kd.pair (Kd.int .i64) (Kd.pair (Kd.int .i64) (Kd.pair (Kd.int .i64) (Kd.pair (Kd.int .i64) (Kd.pair (Kd.int .i64) (Kd.int .i64)))))))) (good := fun y : ((Int) × ((Int) × ((Int) × ((Int) × ((Int) × ((Int) × (Int))))))) => ((Lit.int .i64 y.1).wf = true ∧ ((Lit.int .i64 y.2.1).wf = true ∧ ((Lit.int .i64 y.2.2.1).wf = true ∧ ((Lit.int .i64 y.2.2.2.1).wf = true ∧ ((Lit.int .i64 y.2.2.2.2.1).wf = true ∧ ((Lit.int .i64 y.2.2.2.2.2.1).wf = true ∧ (Lit.int .i64 y.2.2.2.2.2.2).wf = true))))))) (g := fun y : S43 => ((Lit.int .i64 y.f0).wf = true ∧ ((Lit.int .i64 y.f1).wf = true ∧ ((Lit.int .i64 y.f2).wf = true ∧ ((Lit.int .i64 y.f3).wf = true ∧ ((Lit.int .i64 y.f4).wf = true ∧ ((Lit.int .i64 y.f5).wf = true ∧ (Lit.int .i64 y.f6).wf = true))))))) (fun x : S43 => (x.f0, x.f1, x.f2, x.f3, x.f4, x.f5, x.f6)) (fun y => (⟨y.1, y.2.1, y.2.2.1, y.2.2.2.1, y.2.2.2.2.1, y.2.2.2.2.2.1, y.2.2.2.2.2.2⟩ : S43)) (fun _ => rfl) (fun _ h => h) Try.underlying43 (by kernel_rfl) ?_
      refine tail_cons (j := 0) (off := 0) (off2 := 1) (d := (Kd.int .i64)) (d2 := (Kd.pair (Kd.int .i64) (Kd.pair (Kd.int .i64) (Kd.pair (Kd.int .i64) (Kd.pair (Kd.int .i64) (Kd.pair (Kd.int .i64) (Kd.int .i64))))))) (good := fun y : (Int) => (Lit.int .i64 y).wf = true) (good2 := fun y : ((Int) × ((Int) × ((Int) × ((Int) × ((Int) × (Int)))))) => ((Lit.int .i64 y.1).wf = true ∧ ((Lit.int .i64 y.2.1).wf = true ∧ ((Lit.int .i64 y.2.2.1).wf = true ∧ ((Lit.int .i64 y.2.2.2.1).wf = true ∧ ((Lit.int .i64 y.2.2.2.2.1).wf = true ∧ (Lit.int .i64 y.2.2.2.2.2).wf = true)))))) rfl rfl (by kernel_rfl) rfl ?_ ?_
      · exact opens_int Try.underlying3
      refine tail_cons (j := 1) (off := 1) (off2 := 2) (d := (Kd.int .i64)) (d2 := (Kd.pair (Kd.int .i64) (Kd.pair (Kd.int .i64) (Kd.pair (Kd.int .i64) (Kd.pair (Kd.int .i64) (Kd.int .i64)))))) (good := fun y : (Int) => (Lit.int .i64 y).wf = true) (good2 := fun y : ((Int) × ((Int) × ((Int) × ((Int) × (Int))))) => ((Lit.int .i64 y.1).wf = true ∧ ((Lit.int .i64 y.2.1).wf = true ∧ ((Lit.int .i64 y.2.2.1).wf = true ∧ ((Lit.int .i64 y.2.2.2.1).wf = true ∧ (Lit.int .i64 y.2.2.2.2).wf = true))))) rfl rfl (by kernel_rfl) rfl ?_ ?_
      · exact opens_int Try.underlying3
      refine tail_cons (j := 2) (off := 2) (off2 := 3) (d := (Kd.int .i64)) (d2 := (Kd.pair (Kd.int .i64) (Kd.pair (Kd.int .i64) (Kd.pair (Kd.int .i64) (Kd.int .i64))))) (good := fun y : (Int) => (Lit.int .i64 y).wf = true) (good2 := fun y : ((Int) × ((Int) × ((Int) × (Int)))) => ((Lit.int .i64 y.1).wf = true ∧ ((Lit.int .i64 y.2.1).wf = true ∧ ((Lit.int .i64 y.2.2.1).wf = true ∧ (Lit.int .i64 y.2.2.2).wf = true)))) rfl rfl (by kernel_rfl) rfl ?_ ?_
      · exact opens_int Try.underlying3
      refine tail_cons (j := 3) (off := 3) (off2 := 4) (d := (Kd.int .i64)) (d2 := (Kd.pair (Kd.int .i64) (Kd.pair (Kd.int .i64) (Kd.int .i64)))) (good := fun y : (Int) => (Lit.int .i64 y).wf = true) (good2 := fun y : ((Int) × ((Int) × (Int))) => ((Lit.int .i64 y.1).wf = true ∧ ((Lit.int .i64 y.2.1).wf = true ∧ (Lit.int .i64 y.2.2).wf = true))) rfl rfl (by kernel_rfl) rfl ?_ ?_
      · exact opens_int Try.underlying3
      refine tail_cons (j := 4) (off := 4) (off2 := 5) (d := (Kd.int .i64)) (d2 := (Kd.pair (Kd.int .i64) (Kd.int .i64))) (good := fun y : (Int) => (Lit.int .i64 y).wf = true) (good2 := fun y : ((Int) × (Int)) => ((Lit.int .i64 y.1).wf = true ∧ (Lit.int .i64 y.2).wf = true)) rfl rfl (by kernel_rfl) rfl ?_ ?_
      · exact opens_int Try.underlying3
      refine tail_cons (j := 5) (off := 5) (off2 := 6) (d := (Kd.int .i64)) (d2 := (Kd.int .i64)) (good := fun y : (Int) => (Lit.int .i64 y).wf = true) (good2 := fun y : (Int) => (Lit.int .i64 y).wf = true) rfl rfl (by kernel_rfl) rfl ?_ ?_
      · exact opens_int Try.underlying3
      refine tail_last (j := 6) (off := 6) (d := (Kd.int .i64)) (good := fun y : (Int) => (Lit.int .i64 y).wf = true) rfl rfl (by kernel_rfl) rfl ?_
      exact opens_int Try.underlying3
    exact o fuel _ _ hf
  obtain ⟨_, _, rfl, rfl, ⟨_, _, rfl, rfl, ⟨_, _, rfl, rfl, ⟨_, _, rfl, rfl, ⟨_, _, rfl, rfl, ⟨_, _, rfl, rfl, rfl⟩⟩⟩⟩⟩⟩ := hK0
  obtain ⟨a1, len1, cap1, rfl⟩ := okWide_slice Try.underlying28 (hval 1 28 v1 rfl rfl)
  have k1 := h1
  have lt1 : ∀ x ∈ p1, x.block < W.heap.size := by obtain ⟨m, hm⟩ := k1; exact DataW.trod_lt m _ _ _ hm
  obtain ⟨y1, hK1, hg1⟩ : ∃ y : List (S31), (Kd.slice 31 k31).K W y [.slice a1 len1 cap1] ∧ (y.length ≤ maxLen ∧ ∀ v0 ∈ y, ((Lit.int .i64 v0.f0).wf = true ∧ ((Lit.int .i64 v0.f1).wf = true ∧ ((Lit.int .i64 v0.f2).wf = true ∧ ((Lit.int .i64 v0.f3).wf = true ∧ ((Lit.int .i64 v0.f4).wf = true ∧ (Lit.int .i64 v0.f5).wf = true)))))) := by
    obtain ⟨fuel, hf⟩ := h1
    have o : Opens enc Try.prog W 0 (fun _ => true) true 28 (Kd.slice 31 k31) (fun y : (List (S31)) => (y.length ≤ maxLen ∧ ∀ v0 ∈ y, ((Lit.int .i64 v0.f0).wf = true ∧ ((Lit.int .i64 v0.f1).wf = true ∧ ((Lit.int .i64 v0.f2).wf = true ∧ ((Lit.int .i64 v0.f3).wf = true ∧ ((Lit.int .i64 v0.f4).wf = true ∧ (Lit.int .i64 v0.f5).wf = true))))))) := by
      refine opens_slice (d := k31) (good := fun y : (S31) => ((Lit.int .i64 y.f0).wf = true ∧ ((Lit.int .i64 y.f1).wf = true ∧ ((Lit.int .i64 y.f2).wf = true ∧ ((Lit.int .i64 y.f3).wf = true ∧ ((Lit.int .i64 y.f4).wf = true ∧ (Lit.int .i64 y.f5).wf = true)))))) Try.underlying28 (by kernel_rfl) ?_
      refine opens_struct (total := 6) (d := (Kd.pair (Kd.int .i64) (Kd.pair (Kd.int .i64) (Kd.pair (Kd.int .i64) (Kd.pair (Kd.int .i64) (Kd.pair (Kd.int .i64) (Kd.int .i64))))))) (good := fun y : ((Int) × ((Int) × ((Int) × ((Int) × ((Int) × (Int)))))) => ((Lit.int .i64 y.1).wf = true ∧ ((Lit.int .i64 y.2.1).wf = true ∧ ((Lit.int .i64 y.2.2.1).wf = true ∧ ((Lit.int .i64 y.2.2.2.1).wf = true ∧ ((Lit.int .i64 y.2.2.2.2.1).wf = true ∧ (Lit.int .i64 y.2.2.2.2.2).wf = true)))))) (g := fun y : S31 => ((Lit.int .i64 y.f0).wf = true ∧ ((Lit.int .i64 y.f1).wf = true ∧ ((Lit.int .i64 y.f2).wf = true ∧ ((Lit.int .i64 y.f3).wf = true ∧ ((Lit.int .i64 y.f4).wf = true ∧ (Lit.int .i64 y.f5).wf = true)))))) (fun x : S31 => (x.f0, x.f1, x.f2, x.f3, x.f4, x.f5)) (fun y => (⟨y.1, y.2.1, y.2.2.1, y.2.2.2.1, y.2.2.2.2.1, y.2.2.2.2.2⟩ : S31)) (fun _ => rfl) (fun _ h => h) Try.underlying31 (by kernel_rfl) ?_
      refine tail_cons (j := 0) (off := 0) (off2 := 1) (d := (Kd.int .i64)) (d2 := (Kd.pair (Kd.int .i64) (Kd.pair (Kd.int .i64) (Kd.pair (Kd.int .i64) (Kd.pair (Kd.int .i64) (Kd.int .i64)))))) (good := fun y : (Int) => (Lit.int .i64 y).wf = true) (good2 := fun y : ((Int) × ((Int) × ((Int) × ((Int) × (Int))))) => ((Lit.int .i64 y.1).wf = true ∧ ((Lit.int .i64 y.2.1).wf = true ∧ ((Lit.int .i64 y.2.2.1).wf = true ∧ ((Lit.int .i64 y.2.2.2.1).wf = true ∧ (Lit.int .i64 y.2.2.2.2).wf = true))))) rfl rfl (by kernel_rfl) rfl ?_ ?_
      · exact opens_int Try.underlying3
      refine tail_cons (j := 1) (off := 1) (off2 := 2) (d := (Kd.int .i64)) (d2 := (Kd.pair (Kd.int .i64) (Kd.pair (Kd.int .i64) (Kd.pair (Kd.int .i64) (Kd.int .i64))))) (good := fun y : (Int) => (Lit.int .i64 y).wf = true) (good2 := fun y : ((Int) × ((Int) × ((Int) × (Int)))) => ((Lit.int .i64 y.1).wf = true ∧ ((Lit.int .i64 y.2.1).wf = true ∧ ((Lit.int .i64 y.2.2.1).wf = true ∧ (Lit.int .i64 y.2.2.2).wf = true)))) rfl rfl (by kernel_rfl) rfl ?_ ?_
      · exact opens_int Try.underlying3
      refine tail_cons (j := 2) (off := 2) (off2 := 3) (d := (Kd.int .i64)) (d2 := (Kd.pair (Kd.int .i64) (Kd.pair (Kd.int .i64) (Kd.int .i64)))) (good := fun y : (Int) => (Lit.int .i64 y).wf = true) (good2 := fun y : ((Int) × ((Int) × (Int))) => ((Lit.int .i64 y.1).wf = true ∧ ((Lit.int .i64 y.2.1).wf = true ∧ (Lit.int .i64 y.2.2).wf = true))) rfl rfl (by kernel_rfl) rfl ?_ ?_
      · exact opens_int Try.underlying3
      refine tail_cons (j := 3) (off := 3) (off2 := 4) (d := (Kd.int .i64)) (d2 := (Kd.pair (Kd.int .i64) (Kd.int .i64))) (good := fun y : (Int) => (Lit.int .i64 y).wf = true) (good2 := fun y : ((Int) × (Int)) => ((Lit.int .i64 y.1).wf = true ∧ (Lit.int .i64 y.2).wf = true)) rfl rfl (by kernel_rfl) rfl ?_ ?_
      · exact opens_int Try.underlying3
      refine tail_cons (j := 4) (off := 4) (off2 := 5) (d := (Kd.int .i64)) (d2 := (Kd.int .i64)) (good := fun y : (Int) => (Lit.int .i64 y).wf = true) (good2 := fun y : (Int) => (Lit.int .i64 y).wf = true) rfl rfl (by kernel_rfl) rfl ?_ ?_
      · exact opens_int Try.underlying2
      refine tail_last (j := 5) (off := 5) (d := (Kd.int .i64)) (good := fun y : (Int) => (Lit.int .i64 y).wf = true) rfl rfl (by kernel_rfl) rfl ?_
      exact opens_int Try.underlying2
    exact o fuel _ _ hf
  obtain ⟨A1, c1, e1, hc1, hr1⟩ := hK1
  simp only [List.cons.injEq, Value.slice.injEq, and_true] at e1
  obtain ⟨rfl, rfl, rfl⟩ := e1
  clear hA0 hval0 hsz0 hsz
  obtain ⟨k, h⟩ := Pure.VoteVotes y0.f0 y0.f1 y0.f2 y0.f3 y0.f4 y0.f5 y0.f6 y1 hg0.1 hg0.2.1 hg0.2.2.1 hg0.2.2.2.1 hg0.2.2.2.2.1 hg0.2.2.2.2.2.1 hg0.2.2.2.2.2.2 hg1
  refine (hornbeamlaw24_VoteVotes.calls k y0.f0 y0.f1 y0.f2 y0.f3 y0.f4 y0.f5 y0.f6 _ _ y1 true W hr1 hc1 h rfl).mono fun e W' ⟨he, hd⟩ => ?_
  have bel : Below W.heap.size W W' := hd
  subst he
  exact ⟨_, rfl, _, _, _, [], _, [], hW', trodAll_mk1 (shut_bool Try.underlying4 _), (trodAll_cons_mk (Below.trod laidOut (by kernel_rfl) (of_decide_eq_true (by kernel_rfl)) k0 bel lt0) (trodAll_cons_mk (Below.trod laidOut (by kernel_rfl) (of_decide_eq_true (by kernel_rfl)) k1 bel lt1) trodAll_mk0)), rfl, bel.frame _, fun h => by cases h⟩
theorem over : Rows.voteVotesRow.holds Try.pinned (OpenSpec.ofChange Rows.voteVotesSpec) :=
  OpenClaim.holds_of_wide 8 Try.f8 rfl rfl rfl rfl rfl rfl rfl ⟨rfl, rfl, rfl, rfl, rfl⟩ rfl rfl rfl rfl rfl (by kernel_rfl) Try.func8 (by kernel_rfl)
    (of_decide_eq_true (by kernel_rfl)) (by unfold Func.isWrapper; first | (rw [if_pos (by decide +kernel)]; kernel_rfl) | (rw [if_neg (by decide +kernel)]; exact ⟨rfl, rfl⟩))
    (fun os started H enc _ => lifted os started H enc)
theorem proved : Rows.VoteVotesSaid := over
#print axioms proved
end Go.Proofs.Ytglicbpnmehloaa.voteVotes
namespace Go.Proofs.Ytglicbpnmehloaa
/-- The row, under a short name, for the claim. -/
theorem voteVotes_holds : Rows.VoteVotesSaid := voteVotes.proved
end Go.Proofs.Ytglicbpnmehloaa
