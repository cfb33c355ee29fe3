/-
  No cell of these rows narrows 'for every input' (looked for: loops, veiled, ifaces, maps, wideKeys, modest, calm, conditions, laid).
  DERIVED. THE GIVEN ROWS OF THIS SEAT. 9 by the template 'for every input the law returns true; each argument reads behind the call as it read before'; 0 by the template 'total and deterministic' (their statements: YtbofijmijeaadaaTotals.lean).
  GIVEN WITH THE SEED: the statements are not yours to turn. If you find one false, say at which input.
  Laid BY PROGRAM, IN A SANDBOX (cutbox-rows.mjs): the forced cells as the released guide's own fill.sh prints them over the translation 0812893cd192f21b… (all of the seat's roots in one cut). By AI agents, Wed Nov 11 2026. No macro, syntax, notation, axiom, sorry.
-/
import Derived.Test.YtbofijmijeaadaaChecked
import GoSem.Claim
import GoSem.ClaimJoined
import GoSem.ClaimMapViews
import Derived.JoinedTies
import Derived.KernelRfl
namespace Go.Proofs.Ytbofijmijeaadaa
/- THE CELL 'sum', in the pinned program and in every row, IS THE sha256 OF THE DUMP (.gsa) THAT YtbofijmijeaadaaProg.lean LOADS. Nothing in Lean hashes anything: it is a label: what it is worth is what the hold of that sum in a sandbox is worth. -/
noncomputable def Try.pinned : Pinned := { name := "ytbofijmijeaadaa", sum := "0812893cd192f21b32d490ef4659f2124ff716a3728df09e6cbcb388b5380fab", checked := Try.checked }
namespace Rows
def none {H : Type} : Left H := { results := [], args := [] }

/-- 'hornbeamlaw01.MixPlays': WHATEVER THE INPUT: true; the input reads as it did. -/
def mixPlaysSpec : ChangeSpec := { name := "mixPlays", fn := fun _ => fun
  | [d1, d2] => { results := [.lit (.bool true)], args := [d1, d2] }
  | _ => none }
def mixPlaysRow : OpenClaim := { program := "ytbofijmijeaadaa", sum := "0812893cd192f21b32d490ef4659f2124ff716a3728df09e6cbcb388b5380fab", func := "hornbeam/hornbeamlaw01.MixPlays", spec := "mixPlays", apart := false }
def MixPlaysSaid : Prop := mixPlaysRow.holds Try.pinned (OpenSpec.ofChange mixPlaysSpec)

/-- ITS FALSE NEIGHBOUR: 'it returns false'. Refute it at one input. -/
def mixPlaysWrong : ChangeSpec := { name := "mixPlays", fn := fun _ => fun
  | [d1, d2] => { results := [.lit (.bool false)], args := [d1, d2] }
  | _ => none }
def MixPlaysWrongFalsely : Prop := mixPlaysRow.holds Try.pinned (OpenSpec.ofChange mixPlaysWrong)

/-- 'hornbeamlaw01.MixApart': WHATEVER THE INPUT: true; the input reads as it did. -/
def mixApartSpec : ChangeSpec := { name := "mixApart", fn := fun _ => fun
  | [d1, d2, d3] => { results := [.lit (.bool true)], args := [d1, d2, d3] }
  | _ => none }
def mixApartRow : OpenClaim := { program := "ytbofijmijeaadaa", sum := "0812893cd192f21b32d490ef4659f2124ff716a3728df09e6cbcb388b5380fab", func := "hornbeam/hornbeamlaw01.MixApart", spec := "mixApart", apart := false }
def MixApartSaid : Prop := mixApartRow.holds Try.pinned (OpenSpec.ofChange mixApartSpec)

/-- ITS FALSE NEIGHBOUR: 'it returns false'. Refute it at one input. -/
def mixApartWrong : ChangeSpec := { name := "mixApart", fn := fun _ => fun
  | [d1, d2, d3] => { results := [.lit (.bool false)], args := [d1, d2, d3] }
  | _ => none }
def MixApartWrongFalsely : Prop := mixApartRow.holds Try.pinned (OpenSpec.ofChange mixApartWrong)

/-- 'hornbeamlaw01.MixParts': WHATEVER THE INPUT: true; the input reads as it did. -/
def mixPartsSpec : ChangeSpec := { name := "mixParts", fn := fun _ => fun
  | [d1, d2] => { results := [.lit (.bool true)], args := [d1, d2] }
  | _ => none }
def mixPartsRow : OpenClaim := { program := "ytbofijmijeaadaa", sum := "0812893cd192f21b32d490ef4659f2124ff716a3728df09e6cbcb388b5380fab", func := "hornbeam/hornbeamlaw01.MixParts", spec := "mixParts", apart := false }
def MixPartsSaid : Prop := mixPartsRow.holds Try.pinned (OpenSpec.ofChange mixPartsSpec)

/-- ITS FALSE NEIGHBOUR: 'it returns false'. Refute it at one input. -/
def mixPartsWrong : ChangeSpec := { name := "mixParts", fn := fun _ => fun
  | [d1, d2] => { results := [.lit (.bool false)], args := [d1, d2] }
  | _ => none }
def MixPartsWrongFalsely : Prop := mixPartsRow.holds Try.pinned (OpenSpec.ofChange mixPartsWrong)

/-- 'hornbeamlaw02.StreamBelow': WHATEVER THE INPUT: true; the input reads as it did. -/
def streamBelowSpec : ChangeSpec := { name := "streamBelow", fn := fun _ => fun
  | [d1, d2] => { results := [.lit (.bool true)], args := [d1, d2] }
  | _ => none }
def streamBelowRow : OpenClaim := { program := "ytbofijmijeaadaa", sum := "0812893cd192f21b32d490ef4659f2124ff716a3728df09e6cbcb388b5380fab", func := "hornbeam/hornbeamlaw02.StreamBelow", spec := "streamBelow", unfollowed := true, recurses := true, apart := false }
def StreamBelowSaid : Prop := streamBelowRow.holds Try.pinned (OpenSpec.ofChange streamBelowSpec)

/-- ITS FALSE NEIGHBOUR: 'it returns false'. Refute it at one input. -/
def streamBelowWrong : ChangeSpec := { name := "streamBelow", fn := fun _ => fun
  | [d1, d2] => { results := [.lit (.bool false)], args := [d1, d2] }
  | _ => none }
def StreamBelowWrongFalsely : Prop := streamBelowRow.holds Try.pinned (OpenSpec.ofChange streamBelowWrong)

/-- 'hornbeamlaw02.StreamFair': WHATEVER THE INPUT: true; the input reads as it did. -/
def streamFairSpec : ChangeSpec := { name := "streamFair", fn := fun _ => fun
  | [d1, d2, d3] => { results := [.lit (.bool true)], args := [d1, d2, d3] }
  | _ => none }
def streamFairRow : OpenClaim := { program := "ytbofijmijeaadaa", sum := "0812893cd192f21b32d490ef4659f2124ff716a3728df09e6cbcb388b5380fab", func := "hornbeam/hornbeamlaw02.StreamFair", spec := "streamFair", unfollowed := true, recurses := true, apart := false }
def StreamFairSaid : Prop := streamFairRow.holds Try.pinned (OpenSpec.ofChange streamFairSpec)

/-- ITS FALSE NEIGHBOUR: 'it returns false'. Refute it at one input. -/
def streamFairWrong : ChangeSpec := { name := "streamFair", fn := fun _ => fun
  | [d1, d2, d3] => { results := [.lit (.bool false)], args := [d1, d2, d3] }
  | _ => none }
def StreamFairWrongFalsely : Prop := streamFairRow.holds Try.pinned (OpenSpec.ofChange streamFairWrong)

/-- 'hornbeamlaw02.StreamEnds': WHATEVER THE INPUT: true; the input reads as it did. -/
def streamEndsSpec : ChangeSpec := { name := "streamEnds", fn := fun _ => fun
  | [d1, d2] => { results := [.lit (.bool true)], args := [d1, d2] }
  | _ => none }
def streamEndsRow : OpenClaim := { program := "ytbofijmijeaadaa", sum := "0812893cd192f21b32d490ef4659f2124ff716a3728df09e6cbcb388b5380fab", func := "hornbeam/hornbeamlaw02.StreamEnds", spec := "streamEnds", unfollowed := true, recurses := true, apart := false }
def StreamEndsSaid : Prop := streamEndsRow.holds Try.pinned (OpenSpec.ofChange streamEndsSpec)

/-- ITS FALSE NEIGHBOUR: 'it returns false'. Refute it at one input. -/
def streamEndsWrong : ChangeSpec := { name := "streamEnds", fn := fun _ => fun
  | [d1, d2] => { results := [.lit (.bool false)], args := [d1, d2] }
  | _ => none }
def StreamEndsWrongFalsely : Prop := streamEndsRow.holds Try.pinned (OpenSpec.ofChange streamEndsWrong)

/-- 'hornbeamlaw02.StreamAlone': WHATEVER THE INPUT: true; the input reads as it did. -/
def streamAloneSpec : ChangeSpec := { name := "streamAlone", fn := fun _ => fun
  | [d1, d2, d3] => { results := [.lit (.bool true)], args := [d1, d2, d3] }
  | _ => none }
def streamAloneRow : OpenClaim := { program := "ytbofijmijeaadaa", sum := "0812893cd192f21b32d490ef4659f2124ff716a3728df09e6cbcb388b5380fab", func := "hornbeam/hornbeamlaw02.StreamAlone", spec := "streamAlone", unfollowed := true, recurses := true, apart := false }
def StreamAloneSaid : Prop := streamAloneRow.holds Try.pinned (OpenSpec.ofChange streamAloneSpec)

/-- ITS FALSE NEIGHBOUR: 'it returns false'. Refute it at one input. -/
def streamAloneWrong : ChangeSpec := { name := "streamAlone", fn := fun _ => fun
  | [d1, d2, d3] => { results := [.lit (.bool false)], args := [d1, d2, d3] }
  | _ => none }
def StreamAloneWrongFalsely : Prop := streamAloneRow.holds Try.pinned (OpenSpec.ofChange streamAloneWrong)

/-- 'hornbeamlaw01.MixBack': WHATEVER THE INPUT: true; the input reads as it did. -/
def mixBackSpec : ChangeSpec := { name := "mixBack", fn := fun _ => fun
  | [d] => { results := [.lit (.bool true)], args := [d] }
  | _ => none }
def mixBackRow : OpenClaim := { program := "ytbofijmijeaadaa", sum := "0812893cd192f21b32d490ef4659f2124ff716a3728df09e6cbcb388b5380fab", func := "hornbeam/hornbeamlaw01.MixBack", spec := "mixBack", unfollowed := true, recurses := true, apart := false }
def MixBackSaid : Prop := mixBackRow.holds Try.pinned (OpenSpec.ofChange mixBackSpec)

/-- ITS FALSE NEIGHBOUR: 'it returns false'. Refute it at one input. -/
def mixBackWrong : ChangeSpec := { name := "mixBack", fn := fun _ => fun
  | [d] => { results := [.lit (.bool false)], args := [d] }
  | _ => none }
def MixBackWrongFalsely : Prop := mixBackRow.holds Try.pinned (OpenSpec.ofChange mixBackWrong)

/-- 'hornbeamlaw02.StreamPlays': WHATEVER THE INPUT: true; the input reads as it did. -/
def streamPlaysSpec : ChangeSpec := { name := "streamPlays", fn := fun _ => fun
  | [d1, d2, d3] => { results := [.lit (.bool true)], args := [d1, d2, d3] }
  | _ => none }
def streamPlaysRow : OpenClaim := { program := "ytbofijmijeaadaa", sum := "0812893cd192f21b32d490ef4659f2124ff716a3728df09e6cbcb388b5380fab", func := "hornbeam/hornbeamlaw02.StreamPlays", spec := "streamPlays", unfollowed := true, recurses := true, apart := false }
def StreamPlaysSaid : Prop := streamPlaysRow.holds Try.pinned (OpenSpec.ofChange streamPlaysSpec)

/-- ITS FALSE NEIGHBOUR: 'it returns false'. Refute it at one input. -/
def streamPlaysWrong : ChangeSpec := { name := "streamPlays", fn := fun _ => fun
  | [d1, d2, d3] => { results := [.lit (.bool false)], args := [d1, d2, d3] }
  | _ => none }
def StreamPlaysWrongFalsely : Prop := streamPlaysRow.holds Try.pinned (OpenSpec.ofChange streamPlaysWrong)

/- THE SECOND FORM. 'bulk': how many values and letters a reading holds, each counted each time it is reached (what is shared counts as often as it is met; a slice's spare places count too). A statement '..UptoSaid' is the law's where the arguments, and the package variables that the reading takes, are together of bulk at most 1048576: NARROWER than '..Said'. Prove '..Said' where nothing that the law and all that it calls make is longer than what came in: it says more and counts as full. Else prove '..UptoSaid'. A law counts once. -/
mutual
def uptoBulk {H : Type} : DataW H → Nat
  | .lit (.string bytes) => bytes.length + 1
  | .lit _ => 1
  | .nil => 1
  | .ptr d => uptoBulk d + 1
  | .slice elems spare => uptoBulkAll elems + uptoBulkAll spare + 1
  | .agg parts => uptoBulkAll parts + 1
  | .iface _ d => uptoBulk d + 1
  | .map entries => uptoBulkEntries entries + 1
  | .held _ => 1
def uptoBulkAll {H : Type} : List (DataW H) → Nat
  | [] => 0
  | d :: r => uptoBulk d + uptoBulkAll r
def uptoBulkEntries {H : Type} : List (Lit × DataW H) → Nat
  | [] => 0
  | x :: r => uptoBulkEntry x + uptoBulkEntries r
def uptoBulkEntry {H : Type} : Lit × DataW H → Nat
  | (.string bytes, d) => bytes.length + uptoBulk d + 1
  | (_, d) => uptoBulk d + 1
 end
def uptoSmall : (H : Type) → List (DataW H) → Bool := fun _ ds => decide (uptoBulkAll ds ≤ 1048576)
def OpenSpec.upto (s : _root_.Go.ChangeSpec) : _root_.Go.OpenSpec := { _root_.Go.OpenSpec.ofChange s with cond := some uptoSmall }

/-- 'hornbeamlaw01.MixPlays', WHERE WHAT IT READS IS OF BULK AT MOST 1048576: true; the input reads as it did. -/
def mixPlaysUptoRow : OpenClaim := { program := "ytbofijmijeaadaa", sum := "0812893cd192f21b32d490ef4659f2124ff716a3728df09e6cbcb388b5380fab", func := "hornbeam/hornbeamlaw01.MixPlays", spec := "mixPlays", apart := false, narrowed := true }
def MixPlaysUptoSaid : Prop := mixPlaysUptoRow.holds Try.pinned (OpenSpec.upto mixPlaysSpec)

/-- 'hornbeamlaw01.MixApart', WHERE WHAT IT READS IS OF BULK AT MOST 1048576: true; the input reads as it did. -/
def mixApartUptoRow : OpenClaim := { program := "ytbofijmijeaadaa", sum := "0812893cd192f21b32d490ef4659f2124ff716a3728df09e6cbcb388b5380fab", func := "hornbeam/hornbeamlaw01.MixApart", spec := "mixApart", apart := false, narrowed := true }
def MixApartUptoSaid : Prop := mixApartUptoRow.holds Try.pinned (OpenSpec.upto mixApartSpec)

/-- 'hornbeamlaw01.MixParts', WHERE WHAT IT READS IS OF BULK AT MOST 1048576: true; the input reads as it did. -/
def mixPartsUptoRow : OpenClaim := { program := "ytbofijmijeaadaa", sum := "0812893cd192f21b32d490ef4659f2124ff716a3728df09e6cbcb388b5380fab", func := "hornbeam/hornbeamlaw01.MixParts", spec := "mixParts", apart := false, narrowed := true }
def MixPartsUptoSaid : Prop := mixPartsUptoRow.holds Try.pinned (OpenSpec.upto mixPartsSpec)

/-- 'hornbeamlaw02.StreamBelow', WHERE WHAT IT READS IS OF BULK AT MOST 1048576: true; the input reads as it did. -/
def streamBelowUptoRow : OpenClaim := { program := "ytbofijmijeaadaa", sum := "0812893cd192f21b32d490ef4659f2124ff716a3728df09e6cbcb388b5380fab", func := "hornbeam/hornbeamlaw02.StreamBelow", spec := "streamBelow", unfollowed := true, recurses := true, apart := false, narrowed := true }
def StreamBelowUptoSaid : Prop := streamBelowUptoRow.holds Try.pinned (OpenSpec.upto streamBelowSpec)

/-- 'hornbeamlaw02.StreamFair', WHERE WHAT IT READS IS OF BULK AT MOST 1048576: true; the input reads as it did. -/
def streamFairUptoRow : OpenClaim := { program := "ytbofijmijeaadaa", sum := "0812893cd192f21b32d490ef4659f2124ff716a3728df09e6cbcb388b5380fab", func := "hornbeam/hornbeamlaw02.StreamFair", spec := "streamFair", unfollowed := true, recurses := true, apart := false, narrowed := true }
def StreamFairUptoSaid : Prop := streamFairUptoRow.holds Try.pinned (OpenSpec.upto streamFairSpec)

/-- 'hornbeamlaw02.StreamEnds', WHERE WHAT IT READS IS OF BULK AT MOST 1048576: true; the input reads as it did. -/
def streamEndsUptoRow : OpenClaim := { program := "ytbofijmijeaadaa", sum := "0812893cd192f21b32d490ef4659f2124ff716a3728df09e6cbcb388b5380fab", func := "hornbeam/hornbeamlaw02.StreamEnds", spec := "streamEnds", unfollowed := true, recurses := true, apart := false, narrowed := true }
def StreamEndsUptoSaid : Prop := streamEndsUptoRow.holds Try.pinned (OpenSpec.upto streamEndsSpec)

/-- 'hornbeamlaw02.StreamAlone', WHERE WHAT IT READS IS OF BULK AT MOST 1048576: true; the input reads as it did. -/
def streamAloneUptoRow : OpenClaim := { program := "ytbofijmijeaadaa", sum := "0812893cd192f21b32d490ef4659f2124ff716a3728df09e6cbcb388b5380fab", func := "hornbeam/hornbeamlaw02.StreamAlone", spec := "streamAlone", unfollowed := true, recurses := true, apart := false, narrowed := true }
def StreamAloneUptoSaid : Prop := streamAloneUptoRow.holds Try.pinned (OpenSpec.upto streamAloneSpec)

/-- 'hornbeamlaw01.MixBack', WHERE WHAT IT READS IS OF BULK AT MOST 1048576: true; the input reads as it did. -/
def mixBackUptoRow : OpenClaim := { program := "ytbofijmijeaadaa", sum := "0812893cd192f21b32d490ef4659f2124ff716a3728df09e6cbcb388b5380fab", func := "hornbeam/hornbeamlaw01.MixBack", spec := "mixBack", unfollowed := true, recurses := true, apart := false, narrowed := true }
def MixBackUptoSaid : Prop := mixBackUptoRow.holds Try.pinned (OpenSpec.upto mixBackSpec)

/-- 'hornbeamlaw02.StreamPlays', WHERE WHAT IT READS IS OF BULK AT MOST 1048576: true; the input reads as it did. -/
def streamPlaysUptoRow : OpenClaim := { program := "ytbofijmijeaadaa", sum := "0812893cd192f21b32d490ef4659f2124ff716a3728df09e6cbcb388b5380fab", func := "hornbeam/hornbeamlaw02.StreamPlays", spec := "streamPlays", unfollowed := true, recurses := true, apart := false, narrowed := true }
def StreamPlaysUptoSaid : Prop := streamPlaysUptoRow.holds Try.pinned (OpenSpec.upto streamPlaysSpec)

end Rows
end Go.Proofs.Ytbofijmijeaadaa
