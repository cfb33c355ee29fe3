/-
  No cell of these rows narrows 'for every input' (looked for: loops, veiled, ifaces, maps, wideKeys, modest, calm, conditions, laid).
  DERIVED. THE GIVEN ROWS OF THIS SEAT. 8 by the template 'for every input the law returns true; each argument reads behind the call as it read before'; 0 by the template 'total and deterministic' (their statements: YtglicbpnmehloaaTotals.lean).
  GIVEN WITH THE SEED: the statements are not yours to turn. If you find one false, say at which input.
  Laid BY PROGRAM, IN A SANDBOX (cutbox-rows.mjs): the forced cells as the released guide's own fill.sh prints them over the translation e27b5aece552ac0f… (all of the seat's roots in one cut). By AI agents, Wed Nov 11 2026. No macro, syntax, notation, axiom, sorry.
-/
import Derived.Test.YtglicbpnmehloaaChecked
import GoSem.Claim
import GoSem.ClaimJoined
import GoSem.ClaimMapViews
import Derived.JoinedTies
import Derived.KernelRfl
namespace Go.Proofs.Ytglicbpnmehloaa
/- THE CELL 'sum', in the pinned program and in every row, IS THE sha256 OF THE DUMP (.gsa) THAT YtglicbpnmehloaaProg.lean LOADS. Nothing in Lean hashes anything: it is a label: what it is worth is what the hold of that sum in a sandbox is worth. -/
noncomputable def Try.pinned : Pinned := { name := "ytglicbpnmehloaa", sum := "e27b5aece552ac0f6356b8879b1973dbfb8badda218bb2d364e224548047f550", checked := Try.checked }
namespace Rows
def none {H : Type} : Left H := { results := [], args := [] }

/-- 'hornbeamlaw04.ProdFloors': WHATEVER THE INPUT: true; the input reads as it did. -/
def prodFloorsSpec : ChangeSpec := { name := "prodFloors", fn := fun _ => fun
  | [d1, d2] => { results := [.lit (.bool true)], args := [d1, d2] }
  | _ => none }
def prodFloorsRow : OpenClaim := { program := "ytglicbpnmehloaa", sum := "e27b5aece552ac0f6356b8879b1973dbfb8badda218bb2d364e224548047f550", func := "hornbeam/hornbeamlaw04.ProdFloors", spec := "prodFloors", apart := false }
def ProdFloorsSaid : Prop := prodFloorsRow.holds Try.pinned (OpenSpec.ofChange prodFloorsSpec)

/-- ITS FALSE NEIGHBOUR: 'it returns false'. Refute it at one input. -/
def prodFloorsWrong : ChangeSpec := { name := "prodFloors", fn := fun _ => fun
  | [d1, d2] => { results := [.lit (.bool false)], args := [d1, d2] }
  | _ => none }
def ProdFloorsWrongFalsely : Prop := prodFloorsRow.holds Try.pinned (OpenSpec.ofChange prodFloorsWrong)

/-- 'hornbeamlaw24.VoteOrder': WHATEVER THE INPUT: true; the input reads as it did. -/
def voteOrderSpec : ChangeSpec := { name := "voteOrder", fn := fun _ => fun
  | [d1, d2] => { results := [.lit (.bool true)], args := [d1, d2] }
  | _ => none }
def voteOrderRow : OpenClaim := { program := "ytglicbpnmehloaa", sum := "e27b5aece552ac0f6356b8879b1973dbfb8badda218bb2d364e224548047f550", func := "hornbeam/hornbeamlaw24.VoteOrder", spec := "voteOrder", apart := false }
def VoteOrderSaid : Prop := voteOrderRow.holds Try.pinned (OpenSpec.ofChange voteOrderSpec)

/-- ITS FALSE NEIGHBOUR: 'it returns false'. Refute it at one input. -/
def voteOrderWrong : ChangeSpec := { name := "voteOrder", fn := fun _ => fun
  | [d1, d2] => { results := [.lit (.bool false)], args := [d1, d2] }
  | _ => none }
def VoteOrderWrongFalsely : Prop := voteOrderRow.holds Try.pinned (OpenSpec.ofChange voteOrderWrong)

/-- 'hornbeamlaw24.VoteMeans': WHATEVER THE INPUT: true; the input reads as it did. -/
def voteMeansSpec : ChangeSpec := { name := "voteMeans", fn := fun _ => fun
  | [d] => { results := [.lit (.bool true)], args := [d] }
  | _ => none }
def voteMeansRow : OpenClaim := { program := "ytglicbpnmehloaa", sum := "e27b5aece552ac0f6356b8879b1973dbfb8badda218bb2d364e224548047f550", func := "hornbeam/hornbeamlaw24.VoteMeans", spec := "voteMeans", apart := false }
def VoteMeansSaid : Prop := voteMeansRow.holds Try.pinned (OpenSpec.ofChange voteMeansSpec)

/-- ITS FALSE NEIGHBOUR: 'it returns false'. Refute it at one input. -/
def voteMeansWrong : ChangeSpec := { name := "voteMeans", fn := fun _ => fun
  | [d] => { results := [.lit (.bool false)], args := [d] }
  | _ => none }
def VoteMeansWrongFalsely : Prop := voteMeansRow.holds Try.pinned (OpenSpec.ofChange voteMeansWrong)

/-- 'hornbeamlaw04.ProdWholes': WHATEVER THE INPUT: true; the input reads as it did. -/
def prodWholesSpec : ChangeSpec := { name := "prodWholes", fn := fun _ => fun
  | [d1, d2] => { results := [.lit (.bool true)], args := [d1, d2] }
  | _ => none }
def prodWholesRow : OpenClaim := { program := "ytglicbpnmehloaa", sum := "e27b5aece552ac0f6356b8879b1973dbfb8badda218bb2d364e224548047f550", func := "hornbeam/hornbeamlaw04.ProdWholes", spec := "prodWholes", apart := false }
def ProdWholesSaid : Prop := prodWholesRow.holds Try.pinned (OpenSpec.ofChange prodWholesSpec)

/-- ITS FALSE NEIGHBOUR: 'it returns false'. Refute it at one input. -/
def prodWholesWrong : ChangeSpec := { name := "prodWholes", fn := fun _ => fun
  | [d1, d2] => { results := [.lit (.bool false)], args := [d1, d2] }
  | _ => none }
def ProdWholesWrongFalsely : Prop := prodWholesRow.holds Try.pinned (OpenSpec.ofChange prodWholesWrong)

/-- 'hornbeamlaw04.ProdBack': WHATEVER THE INPUT: true; the input reads as it did. -/
def prodBackSpec : ChangeSpec := { name := "prodBack", fn := fun _ => fun
  | [d1, d2] => { results := [.lit (.bool true)], args := [d1, d2] }
  | _ => none }
def prodBackRow : OpenClaim := { program := "ytglicbpnmehloaa", sum := "e27b5aece552ac0f6356b8879b1973dbfb8badda218bb2d364e224548047f550", func := "hornbeam/hornbeamlaw04.ProdBack", spec := "prodBack", apart := false }
def ProdBackSaid : Prop := prodBackRow.holds Try.pinned (OpenSpec.ofChange prodBackSpec)

/-- ITS FALSE NEIGHBOUR: 'it returns false'. Refute it at one input. -/
def prodBackWrong : ChangeSpec := { name := "prodBack", fn := fun _ => fun
  | [d1, d2] => { results := [.lit (.bool false)], args := [d1, d2] }
  | _ => none }
def ProdBackWrongFalsely : Prop := prodBackRow.holds Try.pinned (OpenSpec.ofChange prodBackWrong)

/-- 'hornbeamlaw24.VoteVotes': WHATEVER THE INPUT: true; the input reads as it did. -/
def voteVotesSpec : ChangeSpec := { name := "voteVotes", fn := fun _ => fun
  | [d1, d2] => { results := [.lit (.bool true)], args := [d1, d2] }
  | _ => none }
def voteVotesRow : OpenClaim := { program := "ytglicbpnmehloaa", sum := "e27b5aece552ac0f6356b8879b1973dbfb8badda218bb2d364e224548047f550", func := "hornbeam/hornbeamlaw24.VoteVotes", spec := "voteVotes", apart := false }
def VoteVotesSaid : Prop := voteVotesRow.holds Try.pinned (OpenSpec.ofChange voteVotesSpec)

/-- ITS FALSE NEIGHBOUR: 'it returns false'. Refute it at one input. -/
def voteVotesWrong : ChangeSpec := { name := "voteVotes", fn := fun _ => fun
  | [d1, d2] => { results := [.lit (.bool false)], args := [d1, d2] }
  | _ => none }
def VoteVotesWrongFalsely : Prop := voteVotesRow.holds Try.pinned (OpenSpec.ofChange voteVotesWrong)

/-- 'hornbeamlaw04.ProdTurns': WHATEVER THE INPUT: true; the input reads as it did. -/
def prodTurnsSpec : ChangeSpec := { name := "prodTurns", fn := fun _ => fun
  | [d1, d2, d3] => { results := [.lit (.bool true)], args := [d1, d2, d3] }
  | _ => none }
def prodTurnsRow : OpenClaim := { program := "ytglicbpnmehloaa", sum := "e27b5aece552ac0f6356b8879b1973dbfb8badda218bb2d364e224548047f550", func := "hornbeam/hornbeamlaw04.ProdTurns", spec := "prodTurns", inPlace := ["math/bits.Add64"], apart := false }
def ProdTurnsSaid : Prop := prodTurnsRow.holds Try.pinned (OpenSpec.ofChange prodTurnsSpec)

/-- ITS FALSE NEIGHBOUR: 'it returns false'. Refute it at one input. -/
def prodTurnsWrong : ChangeSpec := { name := "prodTurns", fn := fun _ => fun
  | [d1, d2, d3] => { results := [.lit (.bool false)], args := [d1, d2, d3] }
  | _ => none }
def ProdTurnsWrongFalsely : Prop := prodTurnsRow.holds Try.pinned (OpenSpec.ofChange prodTurnsWrong)

/-- 'hornbeamlaw04.ProdWides': WHATEVER THE INPUT: true; the input reads as it did. -/
def prodWidesSpec : ChangeSpec := { name := "prodWides", fn := fun _ => fun
  | [d1, d2, d3] => { results := [.lit (.bool true)], args := [d1, d2, d3] }
  | _ => none }
def prodWidesRow : OpenClaim := { program := "ytglicbpnmehloaa", sum := "e27b5aece552ac0f6356b8879b1973dbfb8badda218bb2d364e224548047f550", func := "hornbeam/hornbeamlaw04.ProdWides", spec := "prodWides", inPlace := ["math/bits.Add64"], apart := false }
def ProdWidesSaid : Prop := prodWidesRow.holds Try.pinned (OpenSpec.ofChange prodWidesSpec)

/-- ITS FALSE NEIGHBOUR: 'it returns false'. Refute it at one input. -/
def prodWidesWrong : ChangeSpec := { name := "prodWides", fn := fun _ => fun
  | [d1, d2, d3] => { results := [.lit (.bool false)], args := [d1, d2, d3] }
  | _ => none }
def ProdWidesWrongFalsely : Prop := prodWidesRow.holds Try.pinned (OpenSpec.ofChange prodWidesWrong)

/- THE SECOND FORM. 'bulk': how many values and letters a reading holds, each counted each time it is reached (what is shared counts as often as it is met; a slice's spare places count too). A statement '..UptoSaid' is the law's where the arguments, and the package variables that the reading takes, are together of bulk at most 1048576: NARROWER than '..Said'. Prove '..Said' where nothing that the law and all that it calls make is longer than what came in: it says more and counts as full. Else prove '..UptoSaid'. A law counts once. -/
mutual
def uptoBulk {H : Type} : DataW H → Nat
  | .lit (.string bytes) => bytes.length + 1
  | .lit _ => 1
  | .nil => 1
  | .ptr d => uptoBulk d + 1
  | .slice elems spare => uptoBulkAll elems + uptoBulkAll spare + 1
  | .agg parts => uptoBulkAll parts + 1
  | .iface _ d => uptoBulk d + 1
  | .map entries => uptoBulkEntries entries + 1
  | .held _ => 1
def uptoBulkAll {H : Type} : List (DataW H) → Nat
  | [] => 0
  | d :: r => uptoBulk d + uptoBulkAll r
def uptoBulkEntries {H : Type} : List (Lit × DataW H) → Nat
  | [] => 0
  | x :: r => uptoBulkEntry x + uptoBulkEntries r
def uptoBulkEntry {H : Type} : Lit × DataW H → Nat
  | (.string bytes, d) => bytes.length + uptoBulk d + 1
  | (_, d) => uptoBulk d + 1
 end
def uptoSmall : (H : Type) → List (DataW H) → Bool := fun _ ds => decide (uptoBulkAll ds ≤ 1048576)
def OpenSpec.upto (s : _root_.Go.ChangeSpec) : _root_.Go.OpenSpec := { _root_.Go.OpenSpec.ofChange s with cond := some uptoSmall }

/-- 'hornbeamlaw04.ProdFloors', WHERE WHAT IT READS IS OF BULK AT MOST 1048576: true; the input reads as it did. -/
def prodFloorsUptoRow : OpenClaim := { program := "ytglicbpnmehloaa", sum := "e27b5aece552ac0f6356b8879b1973dbfb8badda218bb2d364e224548047f550", func := "hornbeam/hornbeamlaw04.ProdFloors", spec := "prodFloors", apart := false, narrowed := true }
def ProdFloorsUptoSaid : Prop := prodFloorsUptoRow.holds Try.pinned (OpenSpec.upto prodFloorsSpec)

/-- 'hornbeamlaw24.VoteOrder', WHERE WHAT IT READS IS OF BULK AT MOST 1048576: true; the input reads as it did. -/
def voteOrderUptoRow : OpenClaim := { program := "ytglicbpnmehloaa", sum := "e27b5aece552ac0f6356b8879b1973dbfb8badda218bb2d364e224548047f550", func := "hornbeam/hornbeamlaw24.VoteOrder", spec := "voteOrder", apart := false, narrowed := true }
def VoteOrderUptoSaid : Prop := voteOrderUptoRow.holds Try.pinned (OpenSpec.upto voteOrderSpec)

/-- 'hornbeamlaw24.VoteMeans', WHERE WHAT IT READS IS OF BULK AT MOST 1048576: true; the input reads as it did. -/
def voteMeansUptoRow : OpenClaim := { program := "ytglicbpnmehloaa", sum := "e27b5aece552ac0f6356b8879b1973dbfb8badda218bb2d364e224548047f550", func := "hornbeam/hornbeamlaw24.VoteMeans", spec := "voteMeans", apart := false, narrowed := true }
def VoteMeansUptoSaid : Prop := voteMeansUptoRow.holds Try.pinned (OpenSpec.upto voteMeansSpec)

/-- 'hornbeamlaw04.ProdWholes', WHERE WHAT IT READS IS OF BULK AT MOST 1048576: true; the input reads as it did. -/
def prodWholesUptoRow : OpenClaim := { program := "ytglicbpnmehloaa", sum := "e27b5aece552ac0f6356b8879b1973dbfb8badda218bb2d364e224548047f550", func := "hornbeam/hornbeamlaw04.ProdWholes", spec := "prodWholes", apart := false, narrowed := true }
def ProdWholesUptoSaid : Prop := prodWholesUptoRow.holds Try.pinned (OpenSpec.upto prodWholesSpec)

/-- 'hornbeamlaw04.ProdBack', WHERE WHAT IT READS IS OF BULK AT MOST 1048576: true; the input reads as it did. -/
def prodBackUptoRow : OpenClaim := { program := "ytglicbpnmehloaa", sum := "e27b5aece552ac0f6356b8879b1973dbfb8badda218bb2d364e224548047f550", func := "hornbeam/hornbeamlaw04.ProdBack", spec := "prodBack", apart := false, narrowed := true }
def ProdBackUptoSaid : Prop := prodBackUptoRow.holds Try.pinned (OpenSpec.upto prodBackSpec)

/-- 'hornbeamlaw24.VoteVotes', WHERE WHAT IT READS IS OF BULK AT MOST 1048576: true; the input reads as it did. -/
def voteVotesUptoRow : OpenClaim := { program := "ytglicbpnmehloaa", sum := "e27b5aece552ac0f6356b8879b1973dbfb8badda218bb2d364e224548047f550", func := "hornbeam/hornbeamlaw24.VoteVotes", spec := "voteVotes", apart := false, narrowed := true }
def VoteVotesUptoSaid : Prop := voteVotesUptoRow.holds Try.pinned (OpenSpec.upto voteVotesSpec)

/-- 'hornbeamlaw04.ProdTurns', WHERE WHAT IT READS IS OF BULK AT MOST 1048576: true; the input reads as it did. -/
def prodTurnsUptoRow : OpenClaim := { program := "ytglicbpnmehloaa", sum := "e27b5aece552ac0f6356b8879b1973dbfb8badda218bb2d364e224548047f550", func := "hornbeam/hornbeamlaw04.ProdTurns", spec := "prodTurns", inPlace := ["math/bits.Add64"], apart := false, narrowed := true }
def ProdTurnsUptoSaid : Prop := prodTurnsUptoRow.holds Try.pinned (OpenSpec.upto prodTurnsSpec)

/-- 'hornbeamlaw04.ProdWides', WHERE WHAT IT READS IS OF BULK AT MOST 1048576: true; the input reads as it did. -/
def prodWidesUptoRow : OpenClaim := { program := "ytglicbpnmehloaa", sum := "e27b5aece552ac0f6356b8879b1973dbfb8badda218bb2d364e224548047f550", func := "hornbeam/hornbeamlaw04.ProdWides", spec := "prodWides", inPlace := ["math/bits.Add64"], apart := false, narrowed := true }
def ProdWidesUptoSaid : Prop := prodWidesUptoRow.holds Try.pinned (OpenSpec.upto prodWidesSpec)

end Rows
end Go.Proofs.Ytglicbpnmehloaa
