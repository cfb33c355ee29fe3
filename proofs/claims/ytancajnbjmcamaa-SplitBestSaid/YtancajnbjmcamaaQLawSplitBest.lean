-- Written by a program of this session (wip/tools/mkprint.py over the kit's print); Lean checks it.
import Derived.Test.YtancajnbjmcamaaRows
import Derived.Test.YtancajnbjmcamaaQSplitBestx11
import Derived.Test.YtancajnbjmcamaaQPureSplitBest
import Derived.Test.YtancajnbjmcamaaUOpn
import Derived.WalkKit
import Derived.ProofKit
import Derived.OpenShut
import Derived.ShutString
import Derived.ChangeOld
import Derived.Below
import Derived.SizedLaws
import Derived.Test.YtancajnbjmcamaaUSized
namespace Go.Proofs.Ytancajnbjmcamaa.splitBest
open Go.ChangeShapes Go.WideShapes Go.ChangeAt Go.RowKit Go.Proofs.Ytancajnbjmcamaa.Opn Go.Proofs.YtancajnbjmcamaaW.PrintWords Go.Proofs.Ytancajnbjmcamaa.QSplitBest
open Go.ChangeMaps (open_string shut_string)
set_option linter.unusedVariables false
theorem own : ownKnob Try.prog.godebug = none := by kernel_rfl
theorem laidOut : laidOutB Try.prog = true := by kernel_rfl
set_option maxRecDepth 100000 in
set_option maxHeartbeats 4000000 in
theorem lifted (os : Os) (started : os.Started) (H : Type) (enc : TypeId × Value → H) :
    ReturnsInHanded {} Try.checked os 4 .any (Rows.splitBestSpec.pre6 enc Try.prog Try.f4 Rows.splitBestRow.domain false) (Rows.splitBestSpec.post enc Try.prog Try.f4 false true false false) := by
  refine returnsInHanded_of_change_sized (C := Try.checked) own started (by kernel_rfl) Try.func4
    (ChangeSpec.witness6 (enc := enc) (C := Try.checked) false ⟨#[], #[.slice none 0 0, .slice none 0 0, .int .i64 0], []⟩ 8 (by kernel_rfl) (by kernel_rfl) (by kernel_rfl) (by kernel_rfl)) ?_
  intro W base args ds gs before hval0 hW hcnd hsz0 _
  have hsz : (DataW.weightsEach Try.prog (Try.f4.params.toList ++ Rows.splitBestSpec.plain.varTypes Try.prog) (ds ++ gs)).all (· ≤ reachBytes) = true := hsz0
  have hval : ∀ (j : Nat) t v, Try.f4.params[j]? = some t → args[j]? = some v → Value.okWide Try.prog W .any base t v := hval0
  have hW' := hW
  obtain ⟨p, q, hA0, hV, rfl, hfz, hnd⟩ := hW
  have hA : DataW.TrodAll enc Try.prog W 0 (fun _ => true) true Try.f4.params.toList args.toList ds p := hA0
  rw [Try.params4] at hA hval hsz
  obtain ⟨v0, vs0, d0, ds0, p0, q0, hargs, rfl, rfl, h0, r0⟩ := trodAll_cons hA
  obtain ⟨v1, vs1, d1, ds1, p1, q1, rfl, rfl, rfl, h1, r1⟩ := trodAll_cons r0
  obtain ⟨v2, vs2, d2, ds2, p2, q2, rfl, rfl, rfl, h2, r2⟩ := trodAll_cons r1
  obtain ⟨rfl, rfl, rfl⟩ := trodAll_nil r2
  obtain rfl : args = #[v0, v1, v2] := by cases args; simp_all
  obtain ⟨rfl, rfl⟩ := trodVars_none hV
  obtain ⟨a0, len0, cap0, rfl⟩ := okWide_slice Try.underlying36 (hval 0 36 v0 rfl rfl)
  have k0 := h0
  have lt0 : ∀ x ∈ p0, x.block < W.heap.size := by obtain ⟨m, hm⟩ := k0; exact DataW.trod_lt m _ _ _ hm
  obtain ⟨y0, hK0, hg0⟩ : ∃ y : List Int, (Kd.slice 3 (Kd.int .i64)).K W y [.slice a0 len0 cap0] ∧ (y.length ≤ maxLen ∧ ∀ v0 ∈ y, (Lit.int .i64 v0).wf = true) := by
    obtain ⟨fuel, hf⟩ := h0
    have o : Opens enc Try.prog W 0 (fun _ => true) true 36 (Kd.slice 3 (Kd.int .i64)) (fun y : (List Int) => (y.length ≤ maxLen ∧ ∀ v0 ∈ y, (Lit.int .i64 v0).wf = true)) := by
      refine opens_slice (d := (Kd.int .i64)) (good := fun y : (Int) => (Lit.int .i64 y).wf = true) Try.underlying36 (by kernel_rfl) ?_
      exact opens_int Try.underlying3
    exact o fuel _ _ hf
  obtain ⟨A0, c0, e0, hc0, hr0⟩ := hK0
  simp only [List.cons.injEq, Value.slice.injEq, and_true] at e0
  obtain ⟨rfl, rfl, rfl⟩ := e0
  have yb0 : y0.length * 8 ≤ 140737488351232 := Go.Proofs.YtancajnbjmcamaaW.PrintWords.sized_ints hsz (j := 0) (t := 36) rfl rfl Try.underlying36 Try.underlying3 (by kernel_rfl) (by kernel_rfl) h0
  obtain ⟨a1, len1, cap1, rfl⟩ := okWide_slice Try.underlying37 (hval 1 37 v1 rfl rfl)
  have k1 := h1
  have lt1 : ∀ x ∈ p1, x.block < W.heap.size := by obtain ⟨m, hm⟩ := k1; exact DataW.trod_lt m _ _ _ hm
  obtain ⟨y1, hK1, hg1⟩ : ∃ y : List (S25), (Kd.slice 25 k25).K W y [.slice a1 len1 cap1] ∧ (y.length ≤ maxLen ∧ ∀ v0 ∈ y, ((Lit.int .i64 v0.f0).wf = true ∧ ((Lit.int .i64 v0.f1).wf = true ∧ ((Lit.int .i64 v0.f2).wf = true ∧ ((v0.f3.length ≤ maxLen ∧ ∀ v1 ∈ v0.f3, (Lit.int .i64 v1).wf = true) ∧ (v0.f4.length ≤ maxLen ∧ ∀ v1 ∈ v0.f4, ((Lit.int .i64 v1.f0).wf = true ∧ ((Lit.int .i64 v1.f1).wf = true ∧ (Lit.int .i64 v1.f2).wf = true)))))))) := by
    obtain ⟨fuel, hf⟩ := h1
    have o : Opens enc Try.prog W 0 (fun _ => true) true 37 (Kd.slice 25 k25) (fun y : (List (S25)) => (y.length ≤ maxLen ∧ ∀ v0 ∈ y, ((Lit.int .i64 v0.f0).wf = true ∧ ((Lit.int .i64 v0.f1).wf = true ∧ ((Lit.int .i64 v0.f2).wf = true ∧ ((v0.f3.length ≤ maxLen ∧ ∀ v1 ∈ v0.f3, (Lit.int .i64 v1).wf = true) ∧ (v0.f4.length ≤ maxLen ∧ ∀ v1 ∈ v0.f4, ((Lit.int .i64 v1.f0).wf = true ∧ ((Lit.int .i64 v1.f1).wf = true ∧ (Lit.int .i64 v1.f2).wf = true))))))))) := by
      refine opens_slice (d := k25) (good := fun y : (S25) => ((Lit.int .i64 y.f0).wf = true ∧ ((Lit.int .i64 y.f1).wf = true ∧ ((Lit.int .i64 y.f2).wf = true ∧ ((y.f3.length ≤ maxLen ∧ ∀ v0 ∈ y.f3, (Lit.int .i64 v0).wf = true) ∧ (y.f4.length ≤ maxLen ∧ ∀ v0 ∈ y.f4, ((Lit.int .i64 v0.f0).wf = true ∧ ((Lit.int .i64 v0.f1).wf = true ∧ (Lit.int .i64 v0.f2).wf = true)))))))) Try.underlying37 (by kernel_rfl) ?_
      refine opens_struct (total := 5) (d := (Kd.pair (Kd.int .i64) (Kd.pair (Kd.int .i64) (Kd.pair (Kd.int .i64) (Kd.pair (Kd.slice 2 (Kd.int .i64)) (Kd.slice 54 k54)))))) (good := fun y : ((Int) × ((Int) × ((Int) × ((List Int) × (List (S54)))))) => ((Lit.int .i64 y.1).wf = true ∧ ((Lit.int .i64 y.2.1).wf = true ∧ ((Lit.int .i64 y.2.2.1).wf = true ∧ ((y.2.2.2.1.length ≤ maxLen ∧ ∀ v0 ∈ y.2.2.2.1, (Lit.int .i64 v0).wf = true) ∧ (y.2.2.2.2.length ≤ maxLen ∧ ∀ v0 ∈ y.2.2.2.2, ((Lit.int .i64 v0.f0).wf = true ∧ ((Lit.int .i64 v0.f1).wf = true ∧ (Lit.int .i64 v0.f2).wf = true)))))))) (g := fun y : S25 => ((Lit.int .i64 y.f0).wf = true ∧ ((Lit.int .i64 y.f1).wf = true ∧ ((Lit.int .i64 y.f2).wf = true ∧ ((y.f3.length ≤ maxLen ∧ ∀ v0 ∈ y.f3, (Lit.int .i64 v0).wf = true) ∧ (y.f4.length ≤ maxLen ∧ ∀ v0 ∈ y.f4, ((Lit.int .i64 v0.f0).wf = true ∧ ((Lit.int .i64 v0.f1).wf = true ∧ (Lit.int .i64 v0.f2).wf = true)))))))) (fun x : S25 => (x.f0, x.f1, x.f2, x.f3, x.f4)) (fun y => (⟨y.1, y.2.1, y.2.2.1, y.2.2.2.1, y.2.2.2.2⟩ : S25)) (fun _ => rfl) (fun _ h => h) Try.underlying25 (by kernel_rfl) ?_
      refine tail_cons (j := 0) (off := 0) (off2 := 1) (d := (Kd.int .i64)) (d2 := (Kd.pair (Kd.int .i64) (Kd.pair (Kd.int .i64) (Kd.pair (Kd.slice 2 (Kd.int .i64)) (Kd.slice 54 k54))))) (good := fun y : (Int) => (Lit.int .i64 y).wf = true) (good2 := fun y : ((Int) × ((Int) × ((List Int) × (List (S54))))) => ((Lit.int .i64 y.1).wf = true ∧ ((Lit.int .i64 y.2.1).wf = true ∧ ((y.2.2.1.length ≤ maxLen ∧ ∀ v0 ∈ y.2.2.1, (Lit.int .i64 v0).wf = true) ∧ (y.2.2.2.length ≤ maxLen ∧ ∀ v0 ∈ y.2.2.2, ((Lit.int .i64 v0.f0).wf = true ∧ ((Lit.int .i64 v0.f1).wf = true ∧ (Lit.int .i64 v0.f2).wf = true))))))) rfl rfl (by kernel_rfl) rfl ?_ ?_
      · exact opens_int Try.underlying3
      refine tail_cons (j := 1) (off := 1) (off2 := 2) (d := (Kd.int .i64)) (d2 := (Kd.pair (Kd.int .i64) (Kd.pair (Kd.slice 2 (Kd.int .i64)) (Kd.slice 54 k54)))) (good := fun y : (Int) => (Lit.int .i64 y).wf = true) (good2 := fun y : ((Int) × ((List Int) × (List (S54)))) => ((Lit.int .i64 y.1).wf = true ∧ ((y.2.1.length ≤ maxLen ∧ ∀ v0 ∈ y.2.1, (Lit.int .i64 v0).wf = true) ∧ (y.2.2.length ≤ maxLen ∧ ∀ v0 ∈ y.2.2, ((Lit.int .i64 v0.f0).wf = true ∧ ((Lit.int .i64 v0.f1).wf = true ∧ (Lit.int .i64 v0.f2).wf = true)))))) rfl rfl (by kernel_rfl) rfl ?_ ?_
      · exact opens_int Try.underlying3
      refine tail_cons (j := 2) (off := 2) (off2 := 3) (d := (Kd.int .i64)) (d2 := (Kd.pair (Kd.slice 2 (Kd.int .i64)) (Kd.slice 54 k54))) (good := fun y : (Int) => (Lit.int .i64 y).wf = true) (good2 := fun y : ((List Int) × (List (S54))) => ((y.1.length ≤ maxLen ∧ ∀ v0 ∈ y.1, (Lit.int .i64 v0).wf = true) ∧ (y.2.length ≤ maxLen ∧ ∀ v0 ∈ y.2, ((Lit.int .i64 v0.f0).wf = true ∧ ((Lit.int .i64 v0.f1).wf = true ∧ (Lit.int .i64 v0.f2).wf = true))))) rfl rfl (by kernel_rfl) rfl ?_ ?_
      · exact opens_int Try.underlying3
      refine tail_cons (j := 3) (off := 3) (off2 := 4) (d := (Kd.slice 2 (Kd.int .i64))) (d2 := (Kd.slice 54 k54)) (good := fun y : (List Int) => (y.length ≤ maxLen ∧ ∀ v0 ∈ y, (Lit.int .i64 v0).wf = true)) (good2 := fun y : (List (S54)) => (y.length ≤ maxLen ∧ ∀ v0 ∈ y, ((Lit.int .i64 v0.f0).wf = true ∧ ((Lit.int .i64 v0.f1).wf = true ∧ (Lit.int .i64 v0.f2).wf = true)))) rfl rfl (by kernel_rfl) rfl ?_ ?_
      · refine opens_slice (d := (Kd.int .i64)) (good := fun y : (Int) => (Lit.int .i64 y).wf = true) Try.underlying22 (by kernel_rfl) ?_
        exact opens_int Try.underlying2
      refine tail_last (j := 4) (off := 4) (d := (Kd.slice 54 k54)) (good := fun y : (List (S54)) => (y.length ≤ maxLen ∧ ∀ v0 ∈ y, ((Lit.int .i64 v0.f0).wf = true ∧ ((Lit.int .i64 v0.f1).wf = true ∧ (Lit.int .i64 v0.f2).wf = true)))) rfl rfl (by kernel_rfl) rfl ?_
      refine opens_slice (d := k54) (good := fun y : (S54) => ((Lit.int .i64 y.f0).wf = true ∧ ((Lit.int .i64 y.f1).wf = true ∧ (Lit.int .i64 y.f2).wf = true))) Try.underlying23 (by kernel_rfl) ?_
      refine opens_struct (total := 3) (d := (Kd.pair (Kd.int .i64) (Kd.pair (Kd.int .i64) (Kd.int .i64)))) (good := fun y : ((Int) × ((Int) × (Int))) => ((Lit.int .i64 y.1).wf = true ∧ ((Lit.int .i64 y.2.1).wf = true ∧ (Lit.int .i64 y.2.2).wf = true))) (g := fun y : S54 => ((Lit.int .i64 y.f0).wf = true ∧ ((Lit.int .i64 y.f1).wf = true ∧ (Lit.int .i64 y.f2).wf = true))) (fun x : S54 => (x.f0, x.f1, x.f2)) (fun y => (⟨y.1, y.2.1, y.2.2⟩ : S54)) (fun _ => rfl) (fun _ h => h) Try.underlying54 (by kernel_rfl) ?_
      refine tail_cons (j := 0) (off := 0) (off2 := 1) (d := (Kd.int .i64)) (d2 := (Kd.pair (Kd.int .i64) (Kd.int .i64))) (good := fun y : (Int) => (Lit.int .i64 y).wf = true) (good2 := fun y : ((Int) × (Int)) => ((Lit.int .i64 y.1).wf = true ∧ (Lit.int .i64 y.2).wf = true)) rfl rfl (by kernel_rfl) rfl ?_ ?_
      · exact opens_int Try.underlying2
      refine tail_cons (j := 1) (off := 1) (off2 := 2) (d := (Kd.int .i64)) (d2 := (Kd.int .i64)) (good := fun y : (Int) => (Lit.int .i64 y).wf = true) (good2 := fun y : (Int) => (Lit.int .i64 y).wf = true) rfl rfl (by kernel_rfl) rfl ?_ ?_
      · exact opens_int Try.underlying2
      refine tail_last (j := 2) (off := 2) (d := (Kd.int .i64)) (good := fun y : (Int) => (Lit.int .i64 y).wf = true) rfl rfl (by kernel_rfl) rfl ?_
      exact opens_int Try.underlying2
    exact o fuel _ _ hf
  obtain ⟨A1, c1, e1, hc1, hr1⟩ := hK1
  simp only [List.cons.injEq, Value.slice.injEq, and_true] at e1
  obtain ⟨rfl, rfl, rfl⟩ := e1
  obtain ⟨a2, rfl, rfl, rfl, w2⟩ := open_int Try.underlying3 (hval 2 3 v2 rfl rfl) h2
  clear hA0 hval0 hsz0 hsz
  obtain ⟨k, h⟩ := Pure.SplitBest y0 y1 a2 hg0 yb0 hg1 w2
  refine (hornbeamlaw16_SplitBest.calls k _ _ y0 _ _ y1 a2 true W hr0 hc0 hr1 hc1 h rfl).mono fun e W' ⟨he, hd⟩ => ?_
  have bel : Below W.heap.size W W' := hd
  subst he
  exact ⟨_, rfl, _, _, _, [], _, [], hW', trodAll_mk1 (shut_bool Try.underlying4 _), (trodAll_cons_mk (Below.trod laidOut (by kernel_rfl) (of_decide_eq_true (by kernel_rfl)) k0 bel lt0) (trodAll_cons_mk (Below.trod laidOut (by kernel_rfl) (of_decide_eq_true (by kernel_rfl)) k1 bel lt1) (trodAll_cons_mk (shut_int Try.underlying3 w2) trodAll_mk0))), rfl, bel.frame _, fun h => by cases h⟩
theorem over : Rows.splitBestRow.holds Try.pinned (OpenSpec.ofChange Rows.splitBestSpec) :=
  OpenClaim.holds_of_wide 4 Try.f4 rfl rfl rfl rfl rfl rfl rfl ⟨rfl, rfl, rfl, rfl, rfl⟩ rfl rfl rfl rfl rfl (by kernel_rfl) Try.func4 (by kernel_rfl)
    (of_decide_eq_true (by kernel_rfl)) (by unfold Func.isWrapper; first | (rw [if_pos (by decide +kernel)]; kernel_rfl) | (rw [if_neg (by decide +kernel)]; exact ⟨rfl, rfl⟩))
    (fun os started H enc _ => lifted os started H enc)
theorem proved : Rows.SplitBestSaid := over
#print axioms proved
end Go.Proofs.Ytancajnbjmcamaa.splitBest
namespace Go.Proofs.Ytancajnbjmcamaa
/-- The row, under a short name, for the claim. -/
theorem splitBest_holds : Rows.SplitBestSaid := splitBest.proved
end Go.Proofs.Ytancajnbjmcamaa
