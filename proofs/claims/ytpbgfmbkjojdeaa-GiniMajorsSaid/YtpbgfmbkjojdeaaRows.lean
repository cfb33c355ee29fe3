/-
  No cell of these rows narrows 'for every input' (looked for: loops, veiled, ifaces, maps, wideKeys, modest, calm, conditions, laid).
  DERIVED. THE GIVEN ROWS OF THIS SEAT. 5 by the template 'for every input the law returns true; each argument reads behind the call as it read before'; 0 by the template 'total and deterministic' (their statements: YtpbgfmbkjojdeaaTotals.lean).
  GIVEN WITH THE SEED: the statements are not yours to turn. If you find one false, say at which input.
  Laid BY PROGRAM, IN A SANDBOX (cutbox-rows.mjs): the forced cells as the released guide's own fill.sh prints them over the translation 9dfb51a5799108e6… (all of the seat's roots in one cut). By AI agents, Wed Nov 11 2026. No macro, syntax, notation, axiom, sorry.
-/
import Derived.Test.YtpbgfmbkjojdeaaChecked
import GoSem.Claim
import GoSem.ClaimJoined
import GoSem.ClaimMapViews
import Derived.JoinedTies
import Derived.KernelRfl
namespace Go.Proofs.Ytpbgfmbkjojdeaa
/- THE CELL 'sum', in the pinned program and in every row, IS THE sha256 OF THE DUMP (.gsa) THAT YtpbgfmbkjojdeaaProg.lean LOADS. Nothing in Lean hashes anything: it is a label: what it is worth is what the hold of that sum in a sandbox is worth. -/
noncomputable def Try.pinned : Pinned := { name := "ytpbgfmbkjojdeaa", sum := "9dfb51a5799108e609d02467016fe875f6c373f2a8a2dd095f628bb5ec5e9c2f", checked := Try.checked }
namespace Rows
def none {H : Type} : Left H := { results := [], args := [] }

/-- 'hornbeamlaw14.GiniScores': WHATEVER THE INPUT: true; the input reads as it did. -/
def giniScoresSpec : ChangeSpec := { name := "giniScores", fn := fun _ => fun
  | [d1, d2] => { results := [.lit (.bool true)], args := [d1, d2] }
  | _ => none }
def giniScoresRow : OpenClaim := { program := "ytpbgfmbkjojdeaa", sum := "9dfb51a5799108e609d02467016fe875f6c373f2a8a2dd095f628bb5ec5e9c2f", func := "hornbeam/hornbeamlaw14.GiniScores", spec := "giniScores", inPlace := ["math/bits.Add64"], unfollowed := true, recurses := true, apart := false }
def GiniScoresSaid : Prop := giniScoresRow.holds Try.pinned (OpenSpec.ofChange giniScoresSpec)

/-- ITS FALSE NEIGHBOUR: 'it returns false'. Refute it at one input. -/
def giniScoresWrong : ChangeSpec := { name := "giniScores", fn := fun _ => fun
  | [d1, d2] => { results := [.lit (.bool false)], args := [d1, d2] }
  | _ => none }
def GiniScoresWrongFalsely : Prop := giniScoresRow.holds Try.pinned (OpenSpec.ofChange giniScoresWrong)

/-- 'hornbeamlaw14.GiniNever': WHATEVER THE INPUT: true; the input reads as it did. -/
def giniNeverSpec : ChangeSpec := { name := "giniNever", fn := fun _ => fun
  | [d1, d2] => { results := [.lit (.bool true)], args := [d1, d2] }
  | _ => none }
def giniNeverRow : OpenClaim := { program := "ytpbgfmbkjojdeaa", sum := "9dfb51a5799108e609d02467016fe875f6c373f2a8a2dd095f628bb5ec5e9c2f", func := "hornbeam/hornbeamlaw14.GiniNever", spec := "giniNever", inPlace := ["math/bits.Add64"], unfollowed := true, recurses := true, apart := false }
def GiniNeverSaid : Prop := giniNeverRow.holds Try.pinned (OpenSpec.ofChange giniNeverSpec)

/-- ITS FALSE NEIGHBOUR: 'it returns false'. Refute it at one input. -/
def giniNeverWrong : ChangeSpec := { name := "giniNever", fn := fun _ => fun
  | [d1, d2] => { results := [.lit (.bool false)], args := [d1, d2] }
  | _ => none }
def GiniNeverWrongFalsely : Prop := giniNeverRow.holds Try.pinned (OpenSpec.ofChange giniNeverWrong)

/-- 'hornbeamlaw14.GiniTimes': WHATEVER THE INPUT: true; the input reads as it did. -/
def giniTimesSpec : ChangeSpec := { name := "giniTimes", fn := fun _ => fun
  | [d1, d2, d3] => { results := [.lit (.bool true)], args := [d1, d2, d3] }
  | _ => none }
def giniTimesRow : OpenClaim := { program := "ytpbgfmbkjojdeaa", sum := "9dfb51a5799108e609d02467016fe875f6c373f2a8a2dd095f628bb5ec5e9c2f", func := "hornbeam/hornbeamlaw14.GiniTimes", spec := "giniTimes", inPlace := ["math/bits.Add64"], unfollowed := true, recurses := true, apart := false }
def GiniTimesSaid : Prop := giniTimesRow.holds Try.pinned (OpenSpec.ofChange giniTimesSpec)

/-- ITS FALSE NEIGHBOUR: 'it returns false'. Refute it at one input. -/
def giniTimesWrong : ChangeSpec := { name := "giniTimes", fn := fun _ => fun
  | [d1, d2, d3] => { results := [.lit (.bool false)], args := [d1, d2, d3] }
  | _ => none }
def GiniTimesWrongFalsely : Prop := giniTimesRow.holds Try.pinned (OpenSpec.ofChange giniTimesWrong)

/-- 'hornbeamlaw14.GiniEnds': WHATEVER THE INPUT: true; the input reads as it did. -/
def giniEndsSpec : ChangeSpec := { name := "giniEnds", fn := fun _ => fun
  | [d] => { results := [.lit (.bool true)], args := [d] }
  | _ => none }
def giniEndsRow : OpenClaim := { program := "ytpbgfmbkjojdeaa", sum := "9dfb51a5799108e609d02467016fe875f6c373f2a8a2dd095f628bb5ec5e9c2f", func := "hornbeam/hornbeamlaw14.GiniEnds", spec := "giniEnds", inPlace := ["math/bits.Add64"], unfollowed := true, recurses := true, apart := false }
def GiniEndsSaid : Prop := giniEndsRow.holds Try.pinned (OpenSpec.ofChange giniEndsSpec)

/-- ITS FALSE NEIGHBOUR: 'it returns false'. Refute it at one input. -/
def giniEndsWrong : ChangeSpec := { name := "giniEnds", fn := fun _ => fun
  | [d] => { results := [.lit (.bool false)], args := [d] }
  | _ => none }
def GiniEndsWrongFalsely : Prop := giniEndsRow.holds Try.pinned (OpenSpec.ofChange giniEndsWrong)

/-- 'hornbeamlaw14.GiniMajors': WHATEVER THE INPUT: true; the input reads as it did. -/
def giniMajorsSpec : ChangeSpec := { name := "giniMajors", fn := fun _ => fun
  | [d] => { results := [.lit (.bool true)], args := [d] }
  | _ => none }
def giniMajorsRow : OpenClaim := { program := "ytpbgfmbkjojdeaa", sum := "9dfb51a5799108e609d02467016fe875f6c373f2a8a2dd095f628bb5ec5e9c2f", func := "hornbeam/hornbeamlaw14.GiniMajors", spec := "giniMajors", inPlace := ["math/bits.Add64"], unfollowed := true, recurses := true, apart := false }
def GiniMajorsSaid : Prop := giniMajorsRow.holds Try.pinned (OpenSpec.ofChange giniMajorsSpec)

/-- ITS FALSE NEIGHBOUR: 'it returns false'. Refute it at one input. -/
def giniMajorsWrong : ChangeSpec := { name := "giniMajors", fn := fun _ => fun
  | [d] => { results := [.lit (.bool false)], args := [d] }
  | _ => none }
def GiniMajorsWrongFalsely : Prop := giniMajorsRow.holds Try.pinned (OpenSpec.ofChange giniMajorsWrong)

/- THE SECOND FORM. 'bulk': how many values and letters a reading holds, each counted each time it is reached (what is shared counts as often as it is met; a slice's spare places count too). A statement '..UptoSaid' is the law's where the arguments, and the package variables that the reading takes, are together of bulk at most 1048576: NARROWER than '..Said'. Prove '..Said' where nothing that the law and all that it calls make is longer than what came in: it says more and counts as full. Else prove '..UptoSaid'. A law counts once. -/
mutual
def uptoBulk {H : Type} : DataW H → Nat
  | .lit (.string bytes) => bytes.length + 1
  | .lit _ => 1
  | .nil => 1
  | .ptr d => uptoBulk d + 1
  | .slice elems spare => uptoBulkAll elems + uptoBulkAll spare + 1
  | .agg parts => uptoBulkAll parts + 1
  | .iface _ d => uptoBulk d + 1
  | .map entries => uptoBulkEntries entries + 1
  | .held _ => 1
def uptoBulkAll {H : Type} : List (DataW H) → Nat
  | [] => 0
  | d :: r => uptoBulk d + uptoBulkAll r
def uptoBulkEntries {H : Type} : List (Lit × DataW H) → Nat
  | [] => 0
  | x :: r => uptoBulkEntry x + uptoBulkEntries r
def uptoBulkEntry {H : Type} : Lit × DataW H → Nat
  | (.string bytes, d) => bytes.length + uptoBulk d + 1
  | (_, d) => uptoBulk d + 1
 end
def uptoSmall : (H : Type) → List (DataW H) → Bool := fun _ ds => decide (uptoBulkAll ds ≤ 1048576)
def OpenSpec.upto (s : _root_.Go.ChangeSpec) : _root_.Go.OpenSpec := { _root_.Go.OpenSpec.ofChange s with cond := some uptoSmall }

/-- 'hornbeamlaw14.GiniScores', WHERE WHAT IT READS IS OF BULK AT MOST 1048576: true; the input reads as it did. -/
def giniScoresUptoRow : OpenClaim := { program := "ytpbgfmbkjojdeaa", sum := "9dfb51a5799108e609d02467016fe875f6c373f2a8a2dd095f628bb5ec5e9c2f", func := "hornbeam/hornbeamlaw14.GiniScores", spec := "giniScores", inPlace := ["math/bits.Add64"], unfollowed := true, recurses := true, apart := false, narrowed := true }
def GiniScoresUptoSaid : Prop := giniScoresUptoRow.holds Try.pinned (OpenSpec.upto giniScoresSpec)

/-- 'hornbeamlaw14.GiniNever', WHERE WHAT IT READS IS OF BULK AT MOST 1048576: true; the input reads as it did. -/
def giniNeverUptoRow : OpenClaim := { program := "ytpbgfmbkjojdeaa", sum := "9dfb51a5799108e609d02467016fe875f6c373f2a8a2dd095f628bb5ec5e9c2f", func := "hornbeam/hornbeamlaw14.GiniNever", spec := "giniNever", inPlace := ["math/bits.Add64"], unfollowed := true, recurses := true, apart := false, narrowed := true }
def GiniNeverUptoSaid : Prop := giniNeverUptoRow.holds Try.pinned (OpenSpec.upto giniNeverSpec)

/-- 'hornbeamlaw14.GiniTimes', WHERE WHAT IT READS IS OF BULK AT MOST 1048576: true; the input reads as it did. -/
def giniTimesUptoRow : OpenClaim := { program := "ytpbgfmbkjojdeaa", sum := "9dfb51a5799108e609d02467016fe875f6c373f2a8a2dd095f628bb5ec5e9c2f", func := "hornbeam/hornbeamlaw14.GiniTimes", spec := "giniTimes", inPlace := ["math/bits.Add64"], unfollowed := true, recurses := true, apart := false, narrowed := true }
def GiniTimesUptoSaid : Prop := giniTimesUptoRow.holds Try.pinned (OpenSpec.upto giniTimesSpec)

/-- 'hornbeamlaw14.GiniEnds', WHERE WHAT IT READS IS OF BULK AT MOST 1048576: true; the input reads as it did. -/
def giniEndsUptoRow : OpenClaim := { program := "ytpbgfmbkjojdeaa", sum := "9dfb51a5799108e609d02467016fe875f6c373f2a8a2dd095f628bb5ec5e9c2f", func := "hornbeam/hornbeamlaw14.GiniEnds", spec := "giniEnds", inPlace := ["math/bits.Add64"], unfollowed := true, recurses := true, apart := false, narrowed := true }
def GiniEndsUptoSaid : Prop := giniEndsUptoRow.holds Try.pinned (OpenSpec.upto giniEndsSpec)

/-- 'hornbeamlaw14.GiniMajors', WHERE WHAT IT READS IS OF BULK AT MOST 1048576: true; the input reads as it did. -/
def giniMajorsUptoRow : OpenClaim := { program := "ytpbgfmbkjojdeaa", sum := "9dfb51a5799108e609d02467016fe875f6c373f2a8a2dd095f628bb5ec5e9c2f", func := "hornbeam/hornbeamlaw14.GiniMajors", spec := "giniMajors", inPlace := ["math/bits.Add64"], unfollowed := true, recurses := true, apart := false, narrowed := true }
def GiniMajorsUptoSaid : Prop := giniMajorsUptoRow.holds Try.pinned (OpenSpec.upto giniMajorsSpec)

end Rows
end Go.Proofs.Ytpbgfmbkjojdeaa
