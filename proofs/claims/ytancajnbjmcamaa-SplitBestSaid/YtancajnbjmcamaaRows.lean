/-
  No cell of these rows narrows 'for every input' (looked for: loops, veiled, ifaces, maps, wideKeys, modest, calm, conditions, laid).
  DERIVED. THE GIVEN ROWS OF THIS SEAT. 5 by the template 'for every input the law returns true; each argument reads behind the call as it read before'; 0 by the template 'total and deterministic' (their statements: YtancajnbjmcamaaTotals.lean).
  GIVEN WITH THE SEED: the statements are not yours to turn. If you find one false, say at which input.
  Laid BY PROGRAM, IN A SANDBOX (cutbox-rows.mjs): the forced cells as the released guide's own fill.sh prints them over the translation 673660da3fb3f84b… (all of the seat's roots in one cut). By AI agents, Wed Nov 11 2026. No macro, syntax, notation, axiom, sorry.
-/
import Derived.Test.YtancajnbjmcamaaChecked
import GoSem.Claim
import GoSem.ClaimJoined
import GoSem.ClaimMapViews
import Derived.JoinedTies
import Derived.KernelRfl
namespace Go.Proofs.Ytancajnbjmcamaa
/- THE CELL 'sum', in the pinned program and in every row, IS THE sha256 OF THE DUMP (.gsa) THAT YtancajnbjmcamaaProg.lean LOADS. Nothing in Lean hashes anything: it is a label: what it is worth is what the hold of that sum in a sandbox is worth. -/
noncomputable def Try.pinned : Pinned := { name := "ytancajnbjmcamaa", sum := "673660da3fb3f84b0c24eff816c9abc3a50e03d75ee2a6429bfd1b5811083409", checked := Try.checked }
namespace Rows
def none {H : Type} : Left H := { results := [], args := [] }

/-- 'hornbeamlaw16.SplitCuts': WHATEVER THE INPUT: true; the input reads as it did. -/
def splitCutsSpec : ChangeSpec := { name := "splitCuts", fn := fun _ => fun
  | [d1, d2, d3] => { results := [.lit (.bool true)], args := [d1, d2, d3] }
  | _ => none }
def splitCutsRow : OpenClaim := { program := "ytancajnbjmcamaa", sum := "673660da3fb3f84b0c24eff816c9abc3a50e03d75ee2a6429bfd1b5811083409", func := "hornbeam/hornbeamlaw16.SplitCuts", spec := "splitCuts", inPlace := ["math/bits.Add64"], unfollowed := true, recurses := true, apart := false }
def SplitCutsSaid : Prop := splitCutsRow.holds Try.pinned (OpenSpec.ofChange splitCutsSpec)

/-- ITS FALSE NEIGHBOUR: 'it returns false'. Refute it at one input. -/
def splitCutsWrong : ChangeSpec := { name := "splitCuts", fn := fun _ => fun
  | [d1, d2, d3] => { results := [.lit (.bool false)], args := [d1, d2, d3] }
  | _ => none }
def SplitCutsWrongFalsely : Prop := splitCutsRow.holds Try.pinned (OpenSpec.ofChange splitCutsWrong)

/-- 'hornbeamlaw16.SplitBest': WHATEVER THE INPUT: true; the input reads as it did. -/
def splitBestSpec : ChangeSpec := { name := "splitBest", fn := fun _ => fun
  | [d1, d2, d3] => { results := [.lit (.bool true)], args := [d1, d2, d3] }
  | _ => none }
def splitBestRow : OpenClaim := { program := "ytancajnbjmcamaa", sum := "673660da3fb3f84b0c24eff816c9abc3a50e03d75ee2a6429bfd1b5811083409", func := "hornbeam/hornbeamlaw16.SplitBest", spec := "splitBest", inPlace := ["math/bits.Add64"], unfollowed := true, recurses := true, apart := false }
def SplitBestSaid : Prop := splitBestRow.holds Try.pinned (OpenSpec.ofChange splitBestSpec)

/-- ITS FALSE NEIGHBOUR: 'it returns false'. Refute it at one input. -/
def splitBestWrong : ChangeSpec := { name := "splitBest", fn := fun _ => fun
  | [d1, d2, d3] => { results := [.lit (.bool false)], args := [d1, d2, d3] }
  | _ => none }
def SplitBestWrongFalsely : Prop := splitBestRow.holds Try.pinned (OpenSpec.ofChange splitBestWrong)

/-- 'hornbeamlaw16.SplitFirst': WHATEVER THE INPUT: true; the input reads as it did. -/
def splitFirstSpec : ChangeSpec := { name := "splitFirst", fn := fun _ => fun
  | [d1, d2] => { results := [.lit (.bool true)], args := [d1, d2] }
  | _ => none }
def splitFirstRow : OpenClaim := { program := "ytancajnbjmcamaa", sum := "673660da3fb3f84b0c24eff816c9abc3a50e03d75ee2a6429bfd1b5811083409", func := "hornbeam/hornbeamlaw16.SplitFirst", spec := "splitFirst", inPlace := ["math/bits.Add64"], unfollowed := true, recurses := true, apart := false }
def SplitFirstSaid : Prop := splitFirstRow.holds Try.pinned (OpenSpec.ofChange splitFirstSpec)

/-- ITS FALSE NEIGHBOUR: 'it returns false'. Refute it at one input. -/
def splitFirstWrong : ChangeSpec := { name := "splitFirst", fn := fun _ => fun
  | [d1, d2] => { results := [.lit (.bool false)], args := [d1, d2] }
  | _ => none }
def SplitFirstWrongFalsely : Prop := splitFirstRow.holds Try.pinned (OpenSpec.ofChange splitFirstWrong)

/-- 'hornbeamlaw16.SplitLeaf': WHATEVER THE INPUT: true; the input reads as it did. -/
def splitLeafSpec : ChangeSpec := { name := "splitLeaf", fn := fun _ => fun
  | [d1, d2, d3] => { results := [.lit (.bool true)], args := [d1, d2, d3] }
  | _ => none }
def splitLeafRow : OpenClaim := { program := "ytancajnbjmcamaa", sum := "673660da3fb3f84b0c24eff816c9abc3a50e03d75ee2a6429bfd1b5811083409", func := "hornbeam/hornbeamlaw16.SplitLeaf", spec := "splitLeaf", inPlace := ["math/bits.Add64"], unfollowed := true, recurses := true, apart := false }
def SplitLeafSaid : Prop := splitLeafRow.holds Try.pinned (OpenSpec.ofChange splitLeafSpec)

/-- ITS FALSE NEIGHBOUR: 'it returns false'. Refute it at one input. -/
def splitLeafWrong : ChangeSpec := { name := "splitLeaf", fn := fun _ => fun
  | [d1, d2, d3] => { results := [.lit (.bool false)], args := [d1, d2, d3] }
  | _ => none }
def SplitLeafWrongFalsely : Prop := splitLeafRow.holds Try.pinned (OpenSpec.ofChange splitLeafWrong)

/-- 'hornbeamlaw16.SplitTimes': WHATEVER THE INPUT: true; the input reads as it did. -/
def splitTimesSpec : ChangeSpec := { name := "splitTimes", fn := fun _ => fun
  | [d1, d2] => { results := [.lit (.bool true)], args := [d1, d2] }
  | _ => none }
def splitTimesRow : OpenClaim := { program := "ytancajnbjmcamaa", sum := "673660da3fb3f84b0c24eff816c9abc3a50e03d75ee2a6429bfd1b5811083409", func := "hornbeam/hornbeamlaw16.SplitTimes", spec := "splitTimes", inPlace := ["math/bits.Add64"], unfollowed := true, recurses := true, apart := false }
def SplitTimesSaid : Prop := splitTimesRow.holds Try.pinned (OpenSpec.ofChange splitTimesSpec)

/-- ITS FALSE NEIGHBOUR: 'it returns false'. Refute it at one input. -/
def splitTimesWrong : ChangeSpec := { name := "splitTimes", fn := fun _ => fun
  | [d1, d2] => { results := [.lit (.bool false)], args := [d1, d2] }
  | _ => none }
def SplitTimesWrongFalsely : Prop := splitTimesRow.holds Try.pinned (OpenSpec.ofChange splitTimesWrong)

/- THE SECOND FORM. 'bulk': how many values and letters a reading holds, each counted each time it is reached (what is shared counts as often as it is met; a slice's spare places count too). A statement '..UptoSaid' is the law's where the arguments, and the package variables that the reading takes, are together of bulk at most 1048576: NARROWER than '..Said'. Prove '..Said' where nothing that the law and all that it calls make is longer than what came in: it says more and counts as full. Else prove '..UptoSaid'. A law counts once. -/
mutual
def uptoBulk {H : Type} : DataW H → Nat
  | .lit (.string bytes) => bytes.length + 1
  | .lit _ => 1
  | .nil => 1
  | .ptr d => uptoBulk d + 1
  | .slice elems spare => uptoBulkAll elems + uptoBulkAll spare + 1
  | .agg parts => uptoBulkAll parts + 1
  | .iface _ d => uptoBulk d + 1
  | .map entries => uptoBulkEntries entries + 1
  | .held _ => 1
def uptoBulkAll {H : Type} : List (DataW H) → Nat
  | [] => 0
  | d :: r => uptoBulk d + uptoBulkAll r
def uptoBulkEntries {H : Type} : List (Lit × DataW H) → Nat
  | [] => 0
  | x :: r => uptoBulkEntry x + uptoBulkEntries r
def uptoBulkEntry {H : Type} : Lit × DataW H → Nat
  | (.string bytes, d) => bytes.length + uptoBulk d + 1
  | (_, d) => uptoBulk d + 1
 end
def uptoSmall : (H : Type) → List (DataW H) → Bool := fun _ ds => decide (uptoBulkAll ds ≤ 1048576)
def OpenSpec.upto (s : _root_.Go.ChangeSpec) : _root_.Go.OpenSpec := { _root_.Go.OpenSpec.ofChange s with cond := some uptoSmall }

/-- 'hornbeamlaw16.SplitCuts', WHERE WHAT IT READS IS OF BULK AT MOST 1048576: true; the input reads as it did. -/
def splitCutsUptoRow : OpenClaim := { program := "ytancajnbjmcamaa", sum := "673660da3fb3f84b0c24eff816c9abc3a50e03d75ee2a6429bfd1b5811083409", func := "hornbeam/hornbeamlaw16.SplitCuts", spec := "splitCuts", inPlace := ["math/bits.Add64"], unfollowed := true, recurses := true, apart := false, narrowed := true }
def SplitCutsUptoSaid : Prop := splitCutsUptoRow.holds Try.pinned (OpenSpec.upto splitCutsSpec)

/-- 'hornbeamlaw16.SplitBest', WHERE WHAT IT READS IS OF BULK AT MOST 1048576: true; the input reads as it did. -/
def splitBestUptoRow : OpenClaim := { program := "ytancajnbjmcamaa", sum := "673660da3fb3f84b0c24eff816c9abc3a50e03d75ee2a6429bfd1b5811083409", func := "hornbeam/hornbeamlaw16.SplitBest", spec := "splitBest", inPlace := ["math/bits.Add64"], unfollowed := true, recurses := true, apart := false, narrowed := true }
def SplitBestUptoSaid : Prop := splitBestUptoRow.holds Try.pinned (OpenSpec.upto splitBestSpec)

/-- 'hornbeamlaw16.SplitFirst', WHERE WHAT IT READS IS OF BULK AT MOST 1048576: true; the input reads as it did. -/
def splitFirstUptoRow : OpenClaim := { program := "ytancajnbjmcamaa", sum := "673660da3fb3f84b0c24eff816c9abc3a50e03d75ee2a6429bfd1b5811083409", func := "hornbeam/hornbeamlaw16.SplitFirst", spec := "splitFirst", inPlace := ["math/bits.Add64"], unfollowed := true, recurses := true, apart := false, narrowed := true }
def SplitFirstUptoSaid : Prop := splitFirstUptoRow.holds Try.pinned (OpenSpec.upto splitFirstSpec)

/-- 'hornbeamlaw16.SplitLeaf', WHERE WHAT IT READS IS OF BULK AT MOST 1048576: true; the input reads as it did. -/
def splitLeafUptoRow : OpenClaim := { program := "ytancajnbjmcamaa", sum := "673660da3fb3f84b0c24eff816c9abc3a50e03d75ee2a6429bfd1b5811083409", func := "hornbeam/hornbeamlaw16.SplitLeaf", spec := "splitLeaf", inPlace := ["math/bits.Add64"], unfollowed := true, recurses := true, apart := false, narrowed := true }
def SplitLeafUptoSaid : Prop := splitLeafUptoRow.holds Try.pinned (OpenSpec.upto splitLeafSpec)

/-- 'hornbeamlaw16.SplitTimes', WHERE WHAT IT READS IS OF BULK AT MOST 1048576: true; the input reads as it did. -/
def splitTimesUptoRow : OpenClaim := { program := "ytancajnbjmcamaa", sum := "673660da3fb3f84b0c24eff816c9abc3a50e03d75ee2a6429bfd1b5811083409", func := "hornbeam/hornbeamlaw16.SplitTimes", spec := "splitTimes", inPlace := ["math/bits.Add64"], unfollowed := true, recurses := true, apart := false, narrowed := true }
def SplitTimesUptoSaid : Prop := splitTimesUptoRow.holds Try.pinned (OpenSpec.upto splitTimesSpec)

end Rows
end Go.Proofs.Ytancajnbjmcamaa
