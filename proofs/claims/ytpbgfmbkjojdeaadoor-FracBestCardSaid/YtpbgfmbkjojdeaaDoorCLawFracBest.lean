-- Written by a program of this session (wip/tools/mkprint.py over the kit's print); Lean checks it.
import Derived.Test.YtpbgfmbkjojdeaaDoorRows
import Derived.Test.YtpbgfmbkjojdeaaDoorCards
import Derived.Test.YtpbgfmbkjojdeaaDoorTie
import Derived.LaidLaws
import Derived.LaidMore
import Derived.Lib.LaidTab
import Derived.Stop.LaidErr
import Derived.MakeChecks
import Derived.SevenTiedAt
import Derived.Handed
import Derived.Test.YtpbgfmbkjojdeaaDoorQFracBestx7
import Derived.Test.YtpbgfmbkjojdeaaDoorQPureFracBest
import Derived.Test.YtpbgfmbkjojdeaaDoorOpn
import Derived.WalkKit
import Derived.ProofKit
import Derived.OpenShut
import Derived.ShutString
import Derived.ChangeOld
import Derived.Below
import Derived.SizedLaws
import Derived.Test.YtpbgfmbkjojdeaaDoorWSized
namespace Go.Proofs.YtpbgfmbkjojdeaaDoor.fracBest
open Go.ChangeShapes Go.WideShapes Go.ChangeAt Go.RowKit Go.Proofs.YtpbgfmbkjojdeaaDoor.Opn Go.Proofs.YtpbgfmbkjojdeaaDoorW.PrintWords Go.Proofs.YtpbgfmbkjojdeaaDoor.QFracBest
open Go.ChangeMaps (open_string shut_string)
set_option linter.unusedVariables false
theorem own : ownKnob Tryd.prog.godebug = none := by kernel_rfl
theorem laidOut : laidOutB Tryd.prog = true := by kernel_rfl
theorem door_met (os : Os) (args : Array Value) : laidMetH Tryd.prog Rows.fracBestRow.laid ((World.doorLaid Tryd.prog 400 os).forCall (fun _ _ => 0) ⟨#[], args, []⟩).memory :=
  laidMetH_of_parts3 (fuel := 8) (laidMet_of_run' 8 (by kernel_rfl) (by kernel_rfl)) (by kernel_rfl) (by kernel_rfl)
theorem tab_data {H : Type} : (Rows.laid_internal_strconv_uint64pow10 : DataW H) = Lib.tabData .u64 Lib.pow10Tab := by kernel_rfl
/-- What the condition gives the walk: the table's numbers. -/
theorem tab_of {W : World} (h : laidMetH Tryd.prog Rows.fracBestRow.laid W) : Tab W := by
  rw [MakeChecks.laidMetH_plain _ _ _ (by kernel_rfl)] at h
  have h2 := h.tail.tail
  rw [tab_data] at h2
  exact Lib.tabIs_of_head (g := 0) (t := 78) (e := 22) (n := 20) (by kernel_rfl) (by kernel_rfl) Tryd.underlying78 Tryd.underlying22 (by kernel_rfl) (by kernel_rfl) h2
set_option maxRecDepth 100000 in
set_option maxHeartbeats 4000000 in
theorem lifted (os : Os) (started : os.Started) (H : Type) (enc : TypeId × Value → H) :
    ReturnsInHanded {} Tryd.checked os 5 .any (fun w args => (Rows.fracBestSpec.pre enc Tryd.prog Tryd.f5 [] false w args ∧ laidMetH Tryd.prog Rows.fracBestRow.laid w) ∧ sizedMet enc Tryd.prog Tryd.f5 (OpenSpec.ofChange Rows.fracBestSpec) false w args) (Rows.fracBestSpec.post enc Tryd.prog Tryd.f5 false true false false) := by
  refine returnsInHanded_of_change_and (C := Tryd.checked) (X := fun w _ => laidMetH Tryd.prog Rows.fracBestRow.laid w) (fun _ _ _ hh h => h.of_heap hh) own started (by kernel_rfl) Tryd.func5
    (ChangeSpec.witness_shaped (enc := enc) (C := Tryd.checked) (os := os) (X := fun w _ => laidMetH Tryd.prog Rows.fracBestRow.laid w) false (World.doorLaid Tryd.prog 400 os) #[.slice none 0 0] 8 rfl (World.shaped_of_RefB (by kernel_rfl) (by kernel_rfl)) (by kernel_rfl) (by kernel_rfl) (by kernel_rfl) (door_met os _)) ?_
  intro W base args ds gs before hval0 hW hcnd hsz0 hL _
  have hTab : Tab W := tab_of hL
  have hsz : (DataW.weightsEach Tryd.prog (Tryd.f5.params.toList ++ Rows.fracBestSpec.plain.varTypes Tryd.prog) (ds ++ gs)).all (· ≤ reachBytes) = true := hsz0
  have hval : ∀ (j : Nat) t v, Tryd.f5.params[j]? = some t → args[j]? = some v → Value.okWide Tryd.prog W .any base t v := hval0
  have hW' := hW
  obtain ⟨p, q, hA0, hV, rfl, hfz, hnd⟩ := hW
  have hA : DataW.TrodAll enc Tryd.prog W 0 (fun _ => true) true Tryd.f5.params.toList args.toList ds p := hA0
  rw [Tryd.params5] at hA hval hsz
  obtain ⟨v0, vs0, d0, ds0, p0, q0, hargs, rfl, rfl, h0, r0⟩ := trodAll_cons hA
  obtain ⟨rfl, rfl, rfl⟩ := trodAll_nil r0
  obtain rfl : args = #[v0] := by cases args; simp_all
  obtain ⟨rfl, rfl⟩ := trodVars_none hV
  obtain ⟨a0, len0, cap0, rfl⟩ := okWide_slice Tryd.underlying34 (hval 0 34 v0 rfl rfl)
  have k0 := h0
  have lt0 : ∀ x ∈ p0, x.block < W.heap.size := by obtain ⟨m, hm⟩ := k0; exact DataW.trod_lt m _ _ _ hm
  obtain ⟨y0, hK0, hg0⟩ : ∃ y : List (S26), (Kd.slice 26 k26).K W y [.slice a0 len0 cap0] ∧ (y.length ≤ maxLen ∧ ∀ v0 ∈ y, (((Lit.int .u64 v0.f0.f0).wf = true ∧ (Lit.int .u64 v0.f0.f1).wf = true) ∧ (Lit.int .u64 v0.f1).wf = true)) := by
    obtain ⟨fuel, hf⟩ := h0
    have o : Opens enc Tryd.prog W 0 (fun _ => true) true 34 (Kd.slice 26 k26) (fun y : (List (S26)) => (y.length ≤ maxLen ∧ ∀ v0 ∈ y, (((Lit.int .u64 v0.f0.f0).wf = true ∧ (Lit.int .u64 v0.f0.f1).wf = true) ∧ (Lit.int .u64 v0.f1).wf = true))) := by
      refine opens_slice (d := k26) (good := fun y : (S26) => (((Lit.int .u64 y.f0.f0).wf = true ∧ (Lit.int .u64 y.f0.f1).wf = true) ∧ (Lit.int .u64 y.f1).wf = true)) Tryd.underlying34 (by kernel_rfl) ?_
      refine opens_struct (total := 3) (d := (Kd.pair k24 (Kd.int .u64))) (good := fun y : ((S24) × (Int)) => (((Lit.int .u64 y.1.f0).wf = true ∧ (Lit.int .u64 y.1.f1).wf = true) ∧ (Lit.int .u64 y.2).wf = true)) (g := fun y : S26 => (((Lit.int .u64 y.f0.f0).wf = true ∧ (Lit.int .u64 y.f0.f1).wf = true) ∧ (Lit.int .u64 y.f1).wf = true)) (fun x : S26 => (x.f0, x.f1)) (fun y => (⟨y.1, y.2⟩ : S26)) (fun _ => rfl) (fun _ h => h) Tryd.underlying26 (by kernel_rfl) ?_
      refine tail_cons (j := 0) (off := 0) (off2 := 2) (d := k24) (d2 := (Kd.int .u64)) (good := fun y : (S24) => ((Lit.int .u64 y.f0).wf = true ∧ (Lit.int .u64 y.f1).wf = true)) (good2 := fun y : (Int) => (Lit.int .u64 y).wf = true) rfl rfl (by kernel_rfl) rfl ?_ ?_
      · refine opens_struct (total := 2) (d := (Kd.pair (Kd.int .u64) (Kd.int .u64))) (good := fun y : ((Int) × (Int)) => ((Lit.int .u64 y.1).wf = true ∧ (Lit.int .u64 y.2).wf = true)) (g := fun y : S24 => ((Lit.int .u64 y.f0).wf = true ∧ (Lit.int .u64 y.f1).wf = true)) (fun x : S24 => (x.f0, x.f1)) (fun y => (⟨y.1, y.2⟩ : S24)) (fun _ => rfl) (fun _ h => h) Tryd.underlying24 (by kernel_rfl) ?_
        refine tail_cons (j := 0) (off := 0) (off2 := 1) (d := (Kd.int .u64)) (d2 := (Kd.int .u64)) (good := fun y : (Int) => (Lit.int .u64 y).wf = true) (good2 := fun y : (Int) => (Lit.int .u64 y).wf = true) rfl rfl (by kernel_rfl) rfl ?_ ?_
        · exact opens_int Tryd.underlying22
        refine tail_last (j := 1) (off := 1) (d := (Kd.int .u64)) (good := fun y : (Int) => (Lit.int .u64 y).wf = true) rfl rfl (by kernel_rfl) rfl ?_
        exact opens_int Tryd.underlying22
      refine tail_last (j := 1) (off := 2) (d := (Kd.int .u64)) (good := fun y : (Int) => (Lit.int .u64 y).wf = true) rfl rfl (by kernel_rfl) rfl ?_
      exact opens_int Tryd.underlying22
    exact o fuel _ _ hf
  obtain ⟨A0, c0, e0, hc0, hr0⟩ := hK0
  simp only [List.cons.injEq, Value.slice.injEq, and_true] at e0
  obtain ⟨rfl, rfl, rfl⟩ := e0
  clear hA0 hval0 hsz0 hsz
  obtain ⟨k, h⟩ := Pure.FracBest y0 hg0
  refine (hornbeamlaw05_FracBest.calls k _ _ y0 true W hTab hr0 hc0 h rfl).mono fun e W' ⟨he, hd⟩ => ?_
  have bel : Below W.heap.size W W' := hd
  subst he
  exact ⟨_, rfl, _, _, _, [], _, [], hW', trodAll_mk1 (shut_bool Tryd.underlying4 _), (trodAll_cons_mk (Below.trod laidOut (by kernel_rfl) (of_decide_eq_true (by kernel_rfl)) k0 bel lt0) trodAll_mk0), rfl, bel.frame _, fun h => by cases h⟩
theorem over : Rows.fracBestRow.holds Tryd.pinned (OpenSpec.ofChange Rows.fracBestSpec) :=
  OpenClaim.holds_of_wide 5 Tryd.f5 rfl rfl rfl rfl rfl rfl rfl ⟨rfl, rfl, rfl, rfl, rfl⟩ rfl rfl rfl rfl rfl (by kernel_rfl) Tryd.func5 (by kernel_rfl)
    (of_decide_eq_true (by kernel_rfl)) (by unfold Func.isWrapper; first | (rw [if_pos (by decide +kernel)]; kernel_rfl) | (rw [if_neg (by decide +kernel)]; exact ⟨rfl, rfl⟩))
    (fun os started H enc _ => lifted os started H enc)
theorem proved : Rows.FracBestSaid := over
#print axioms proved
end Go.Proofs.YtpbgfmbkjojdeaaDoor.fracBest
namespace Go.Proofs.YtpbgfmbkjojdeaaDoor
open Go
/-- The row, under a short name, for the claim. -/
theorem fracBest_holds : Rows.FracBestSaid := fracBest.proved
/-- The tied card. -/
theorem fracBest_card_holds : Rows.FracBestCardSaid :=
  Claim7.holds_tied_plain_at .later [] [.data, .data, .data] true (true, "f532c86282420f8154323f45825c8cecdcf558660705327fdc40a1eb65a8879b") false
    fracBest_holds (fun _ h => by cases h) (by kernel_rfl) (fun _ h => by cases h) fracBest_row_tie rfl ⟨rfl, rfl⟩ (by kernel_rfl) rfl
    (fun f fn hf hfn => by
      obtain rfl : f = 5 := Option.some.inj ((show Tryd.prog.funcNamed "hornbeam/hornbeamlaw05.FracBest" = some 5 by kernel_rfl).symm.trans hf) |>.symm
      obtain rfl : fn = Tryd.f5 := (Option.some.inj (Tryd.func5.symm.trans hfn)).symm
      exact ⟨by kernel_rfl, fun j t ht => by
        rw [Tryd.params5] at ht
        have hm : t ∈ [34] := by simpa using Array.mem_of_getElem? ht
        have hall : ([34].all fun u => !Tryd.prog.wantsStandIn u) = true := by kernel_rfl
        exact (show Tryd.prog.wantsStandIn t = false by simpa using List.all_eq_true.1 hall t hm)⟩)
    (by kernel_rfl)
#print axioms fracBest_card_holds
end Go.Proofs.YtpbgfmbkjojdeaaDoor
