/-
  NARROWER THAN 'FOR EVERY INPUT', by the rows' own cells (each row's printed sentence says how): FracChains: laid · FracTexts: laid · FracBest: laid · FracOrder: laid · FracSame: laid.
  DERIVED. THE GIVEN ROWS OF THIS SEAT. 5 by the template 'for every input the law returns true; each argument reads behind the call as it read before'; 0 by the template 'total and deterministic' (their statements: YtpbgfmbkjojdeaaDoorTotals.lean).
  GIVEN WITH THE SEED: the statements are not yours to turn. If you find one false, say at which input.
  Laid BY PROGRAM, IN A SANDBOX (cutbox-rows.mjs): the forced cells as the released guide's own fill.sh prints them over the translation 43f35b4e1801997c… (all of the seat's roots in one cut). By AI agents, Wed Nov 11 2026. No macro, syntax, notation, axiom, sorry.
-/
import Derived.Test.YtpbgfmbkjojdeaaDoorChecked
import GoSem.Claim
import GoSem.ClaimJoined
import GoSem.ClaimMapViews
import Derived.JoinedTies
import Derived.KernelRfl
namespace Go.Proofs.YtpbgfmbkjojdeaaDoor
/- THE CELL 'sum', in the pinned program and in every row, IS THE sha256 OF THE DUMP (.gsa) THAT YtpbgfmbkjojdeaaDoorProg.lean LOADS. Nothing in Lean hashes anything: it is a label: what it is worth is what the hold of that sum in a sandbox is worth. -/
noncomputable def Tryd.pinned : Pinned := { name := "ytpbgfmbkjojdeaadoor", sum := "43f35b4e1801997cae66cfb9e622a8d242509928329c72b11581d0f3a1c00a71", checked := Tryd.checked }
namespace Rows
def none {H : Type} : Left H := { results := [], args := [] }

/- WHAT THE LISTED PACKAGE-LEVEL VARIABLES READ AS WHEN THE CALL BEGINS. Each datum BY PROGRAM (the guide's laid-datum.mjs) off the statement by which the dump's own 'gosem.cut.vars' lays the variable. In a bare row this is a premise. The card (YtpbgfmbkjojdeaaDoorCards.lean) ties it to the program's text. -/
def laid_math_bits_deBruijn32tab {H : Type} : DataW H := .agg [.lit (.int .u8 0), .lit (.int .u8 1), .lit (.int .u8 28), .lit (.int .u8 2), .lit (.int .u8 29), .lit (.int .u8 14), .lit (.int .u8 24), .lit (.int .u8 3), .lit (.int .u8 30), .lit (.int .u8 22), .lit (.int .u8 20), .lit (.int .u8 15), .lit (.int .u8 25), .lit (.int .u8 17), .lit (.int .u8 4), .lit (.int .u8 8), .lit (.int .u8 31), .lit (.int .u8 27), .lit (.int .u8 13), .lit (.int .u8 23), .lit (.int .u8 21), .lit (.int .u8 19), .lit (.int .u8 16), .lit (.int .u8 7), .lit (.int .u8 26), .lit (.int .u8 12), .lit (.int .u8 18), .lit (.int .u8 6), .lit (.int .u8 11), .lit (.int .u8 5), .lit (.int .u8 10), .lit (.int .u8 9)]
def laid_math_bits_deBruijn64tab {H : Type} : DataW H := .agg [.lit (.int .u8 0), .lit (.int .u8 1), .lit (.int .u8 56), .lit (.int .u8 2), .lit (.int .u8 57), .lit (.int .u8 49), .lit (.int .u8 28), .lit (.int .u8 3), .lit (.int .u8 61), .lit (.int .u8 58), .lit (.int .u8 42), .lit (.int .u8 50), .lit (.int .u8 38), .lit (.int .u8 29), .lit (.int .u8 17), .lit (.int .u8 4), .lit (.int .u8 62), .lit (.int .u8 47), .lit (.int .u8 59), .lit (.int .u8 36), .lit (.int .u8 45), .lit (.int .u8 43), .lit (.int .u8 51), .lit (.int .u8 22), .lit (.int .u8 53), .lit (.int .u8 39), .lit (.int .u8 33), .lit (.int .u8 30), .lit (.int .u8 24), .lit (.int .u8 18), .lit (.int .u8 12), .lit (.int .u8 5), .lit (.int .u8 63), .lit (.int .u8 55), .lit (.int .u8 48), .lit (.int .u8 27), .lit (.int .u8 60), .lit (.int .u8 41), .lit (.int .u8 37), .lit (.int .u8 16), .lit (.int .u8 46), .lit (.int .u8 35), .lit (.int .u8 44), .lit (.int .u8 21), .lit (.int .u8 52), .lit (.int .u8 32), .lit (.int .u8 23), .lit (.int .u8 11), .lit (.int .u8 54), .lit (.int .u8 26), .lit (.int .u8 40), .lit (.int .u8 15), .lit (.int .u8 34), .lit (.int .u8 20), .lit (.int .u8 31), .lit (.int .u8 10), .lit (.int .u8 25), .lit (.int .u8 14), .lit (.int .u8 19), .lit (.int .u8 9), .lit (.int .u8 13), .lit (.int .u8 8), .lit (.int .u8 7), .lit (.int .u8 6)]
def laid_internal_strconv_uint64pow10 {H : Type} : DataW H := .agg [.lit (.int .u64 1), .lit (.int .u64 10), .lit (.int .u64 100), .lit (.int .u64 1000), .lit (.int .u64 10000), .lit (.int .u64 100000), .lit (.int .u64 1000000), .lit (.int .u64 10000000), .lit (.int .u64 100000000), .lit (.int .u64 1000000000), .lit (.int .u64 10000000000), .lit (.int .u64 100000000000), .lit (.int .u64 1000000000000), .lit (.int .u64 10000000000000), .lit (.int .u64 100000000000000), .lit (.int .u64 1000000000000000), .lit (.int .u64 10000000000000000), .lit (.int .u64 100000000000000000), .lit (.int .u64 1000000000000000000), .lit (.int .u64 10000000000000000000)]

/-- 'hornbeamlaw05.FracChains': WHATEVER THE INPUT: true; the input reads as it did. -/
def fracChainsSpec : ChangeSpec := { name := "fracChains", fn := fun _ => fun
  | [d1, d2, d3] => { results := [.lit (.bool true)], args := [d1, d2, d3] }
  | _ => none }
def fracChainsRow : OpenClaim := { program := "ytpbgfmbkjojdeaadoor", sum := "43f35b4e1801997cae66cfb9e622a8d242509928329c72b11581d0f3a1c00a71", func := "hornbeam/hornbeamlaw05.FracChains", spec := "fracChains", inPlace := ["math/bits.Add64"], named := ["internal/strconv.uint64pow10", "math/bits.deBruijn32tab", "math/bits.deBruijn64tab"], apart := false, laid := [("math/bits.deBruijn32tab", laid_math_bits_deBruijn32tab), ("math/bits.deBruijn64tab", laid_math_bits_deBruijn64tab), ("internal/strconv.uint64pow10", laid_internal_strconv_uint64pow10)] }
def FracChainsSaid : Prop := fracChainsRow.holds Tryd.pinned (OpenSpec.ofChange fracChainsSpec)

/-- ITS FALSE NEIGHBOUR: 'it returns false'. Refute it at one input. -/
def fracChainsWrong : ChangeSpec := { name := "fracChains", fn := fun _ => fun
  | [d1, d2, d3] => { results := [.lit (.bool false)], args := [d1, d2, d3] }
  | _ => none }
def FracChainsWrongFalsely : Prop := fracChainsRow.holds Tryd.pinned (OpenSpec.ofChange fracChainsWrong)

/-- 'hornbeamlaw05.FracTexts': WHATEVER THE INPUT: true; the input reads as it did. -/
def fracTextsSpec : ChangeSpec := { name := "fracTexts", fn := fun _ => fun
  | [d] => { results := [.lit (.bool true)], args := [d] }
  | _ => none }
def fracTextsRow : OpenClaim := { program := "ytpbgfmbkjojdeaadoor", sum := "43f35b4e1801997cae66cfb9e622a8d242509928329c72b11581d0f3a1c00a71", func := "hornbeam/hornbeamlaw05.FracTexts", spec := "fracTexts", inPlace := ["math/bits.Add64"], named := ["internal/strconv.uint64pow10", "math/bits.deBruijn32tab", "math/bits.deBruijn64tab"], apart := false, laid := [("math/bits.deBruijn32tab", laid_math_bits_deBruijn32tab), ("math/bits.deBruijn64tab", laid_math_bits_deBruijn64tab), ("internal/strconv.uint64pow10", laid_internal_strconv_uint64pow10)] }
def FracTextsSaid : Prop := fracTextsRow.holds Tryd.pinned (OpenSpec.ofChange fracTextsSpec)

/-- ITS FALSE NEIGHBOUR: 'it returns false'. Refute it at one input. -/
def fracTextsWrong : ChangeSpec := { name := "fracTexts", fn := fun _ => fun
  | [d] => { results := [.lit (.bool false)], args := [d] }
  | _ => none }
def FracTextsWrongFalsely : Prop := fracTextsRow.holds Tryd.pinned (OpenSpec.ofChange fracTextsWrong)

/-- 'hornbeamlaw05.FracBest': WHATEVER THE INPUT: true; the input reads as it did. -/
def fracBestSpec : ChangeSpec := { name := "fracBest", fn := fun _ => fun
  | [d] => { results := [.lit (.bool true)], args := [d] }
  | _ => none }
def fracBestRow : OpenClaim := { program := "ytpbgfmbkjojdeaadoor", sum := "43f35b4e1801997cae66cfb9e622a8d242509928329c72b11581d0f3a1c00a71", func := "hornbeam/hornbeamlaw05.FracBest", spec := "fracBest", inPlace := ["math/bits.Add64"], unfollowed := true, recurses := true, named := ["internal/strconv.uint64pow10", "math/bits.deBruijn32tab", "math/bits.deBruijn64tab"], apart := false, laid := [("math/bits.deBruijn32tab", laid_math_bits_deBruijn32tab), ("math/bits.deBruijn64tab", laid_math_bits_deBruijn64tab), ("internal/strconv.uint64pow10", laid_internal_strconv_uint64pow10)] }
def FracBestSaid : Prop := fracBestRow.holds Tryd.pinned (OpenSpec.ofChange fracBestSpec)

/-- ITS FALSE NEIGHBOUR: 'it returns false'. Refute it at one input. -/
def fracBestWrong : ChangeSpec := { name := "fracBest", fn := fun _ => fun
  | [d] => { results := [.lit (.bool false)], args := [d] }
  | _ => none }
def FracBestWrongFalsely : Prop := fracBestRow.holds Tryd.pinned (OpenSpec.ofChange fracBestWrong)

/-- 'hornbeamlaw05.FracOrder': WHATEVER THE INPUT: true; the input reads as it did. -/
def fracOrderSpec : ChangeSpec := { name := "fracOrder", fn := fun _ => fun
  | [d1, d2, d3] => { results := [.lit (.bool true)], args := [d1, d2, d3] }
  | _ => none }
def fracOrderRow : OpenClaim := { program := "ytpbgfmbkjojdeaadoor", sum := "43f35b4e1801997cae66cfb9e622a8d242509928329c72b11581d0f3a1c00a71", func := "hornbeam/hornbeamlaw05.FracOrder", spec := "fracOrder", inPlace := ["math/bits.Add64"], named := ["internal/strconv.uint64pow10", "math/bits.deBruijn32tab", "math/bits.deBruijn64tab"], apart := false, laid := [("math/bits.deBruijn32tab", laid_math_bits_deBruijn32tab), ("math/bits.deBruijn64tab", laid_math_bits_deBruijn64tab), ("internal/strconv.uint64pow10", laid_internal_strconv_uint64pow10)] }
def FracOrderSaid : Prop := fracOrderRow.holds Tryd.pinned (OpenSpec.ofChange fracOrderSpec)

/-- ITS FALSE NEIGHBOUR: 'it returns false'. Refute it at one input. -/
def fracOrderWrong : ChangeSpec := { name := "fracOrder", fn := fun _ => fun
  | [d1, d2, d3] => { results := [.lit (.bool false)], args := [d1, d2, d3] }
  | _ => none }
def FracOrderWrongFalsely : Prop := fracOrderRow.holds Tryd.pinned (OpenSpec.ofChange fracOrderWrong)

/-- 'hornbeamlaw05.FracSame': WHATEVER THE INPUT: true; the input reads as it did. -/
def fracSameSpec : ChangeSpec := { name := "fracSame", fn := fun _ => fun
  | [d1, d2, d3] => { results := [.lit (.bool true)], args := [d1, d2, d3] }
  | _ => none }
def fracSameRow : OpenClaim := { program := "ytpbgfmbkjojdeaadoor", sum := "43f35b4e1801997cae66cfb9e622a8d242509928329c72b11581d0f3a1c00a71", func := "hornbeam/hornbeamlaw05.FracSame", spec := "fracSame", inPlace := ["math/bits.Add64"], named := ["internal/strconv.uint64pow10", "math/bits.deBruijn32tab", "math/bits.deBruijn64tab"], apart := false, laid := [("math/bits.deBruijn32tab", laid_math_bits_deBruijn32tab), ("math/bits.deBruijn64tab", laid_math_bits_deBruijn64tab), ("internal/strconv.uint64pow10", laid_internal_strconv_uint64pow10)] }
def FracSameSaid : Prop := fracSameRow.holds Tryd.pinned (OpenSpec.ofChange fracSameSpec)

/-- ITS FALSE NEIGHBOUR: 'it returns false'. Refute it at one input. -/
def fracSameWrong : ChangeSpec := { name := "fracSame", fn := fun _ => fun
  | [d1, d2, d3] => { results := [.lit (.bool false)], args := [d1, d2, d3] }
  | _ => none }
def FracSameWrongFalsely : Prop := fracSameRow.holds Tryd.pinned (OpenSpec.ofChange fracSameWrong)

/- THE SECOND FORM. 'bulk': how many values and letters a reading holds, each counted each time it is reached (what is shared counts as often as it is met; a slice's spare places count too). A statement '..UptoSaid' is the law's where the arguments, and the package variables that the reading takes, are together of bulk at most 1048576: NARROWER than '..Said'. Prove '..Said' where nothing that the law and all that it calls make is longer than what came in: it says more and counts as full. Else prove '..UptoSaid'. A law counts once. -/
mutual
def uptoBulk {H : Type} : DataW H → Nat
  | .lit (.string bytes) => bytes.length + 1
  | .lit _ => 1
  | .nil => 1
  | .ptr d => uptoBulk d + 1
  | .slice elems spare => uptoBulkAll elems + uptoBulkAll spare + 1
  | .agg parts => uptoBulkAll parts + 1
  | .iface _ d => uptoBulk d + 1
  | .map entries => uptoBulkEntries entries + 1
  | .held _ => 1
def uptoBulkAll {H : Type} : List (DataW H) → Nat
  | [] => 0
  | d :: r => uptoBulk d + uptoBulkAll r
def uptoBulkEntries {H : Type} : List (Lit × DataW H) → Nat
  | [] => 0
  | x :: r => uptoBulkEntry x + uptoBulkEntries r
def uptoBulkEntry {H : Type} : Lit × DataW H → Nat
  | (.string bytes, d) => bytes.length + uptoBulk d + 1
  | (_, d) => uptoBulk d + 1
 end
def uptoSmall : (H : Type) → List (DataW H) → Bool := fun _ ds => decide (uptoBulkAll ds ≤ 1048576)
def OpenSpec.upto (s : _root_.Go.ChangeSpec) : _root_.Go.OpenSpec := { _root_.Go.OpenSpec.ofChange s with cond := some uptoSmall }

/-- 'hornbeamlaw05.FracChains', WHERE WHAT IT READS IS OF BULK AT MOST 1048576: true; the input reads as it did. -/
def fracChainsUptoRow : OpenClaim := { program := "ytpbgfmbkjojdeaadoor", sum := "43f35b4e1801997cae66cfb9e622a8d242509928329c72b11581d0f3a1c00a71", func := "hornbeam/hornbeamlaw05.FracChains", spec := "fracChains", inPlace := ["math/bits.Add64"], named := ["internal/strconv.uint64pow10", "math/bits.deBruijn32tab", "math/bits.deBruijn64tab"], apart := false, laid := [("math/bits.deBruijn32tab", laid_math_bits_deBruijn32tab), ("math/bits.deBruijn64tab", laid_math_bits_deBruijn64tab), ("internal/strconv.uint64pow10", laid_internal_strconv_uint64pow10)], narrowed := true }
def FracChainsUptoSaid : Prop := fracChainsUptoRow.holds Tryd.pinned (OpenSpec.upto fracChainsSpec)

/-- 'hornbeamlaw05.FracTexts', WHERE WHAT IT READS IS OF BULK AT MOST 1048576: true; the input reads as it did. -/
def fracTextsUptoRow : OpenClaim := { program := "ytpbgfmbkjojdeaadoor", sum := "43f35b4e1801997cae66cfb9e622a8d242509928329c72b11581d0f3a1c00a71", func := "hornbeam/hornbeamlaw05.FracTexts", spec := "fracTexts", inPlace := ["math/bits.Add64"], named := ["internal/strconv.uint64pow10", "math/bits.deBruijn32tab", "math/bits.deBruijn64tab"], apart := false, laid := [("math/bits.deBruijn32tab", laid_math_bits_deBruijn32tab), ("math/bits.deBruijn64tab", laid_math_bits_deBruijn64tab), ("internal/strconv.uint64pow10", laid_internal_strconv_uint64pow10)], narrowed := true }
def FracTextsUptoSaid : Prop := fracTextsUptoRow.holds Tryd.pinned (OpenSpec.upto fracTextsSpec)

/-- 'hornbeamlaw05.FracBest', WHERE WHAT IT READS IS OF BULK AT MOST 1048576: true; the input reads as it did. -/
def fracBestUptoRow : OpenClaim := { program := "ytpbgfmbkjojdeaadoor", sum := "43f35b4e1801997cae66cfb9e622a8d242509928329c72b11581d0f3a1c00a71", func := "hornbeam/hornbeamlaw05.FracBest", spec := "fracBest", inPlace := ["math/bits.Add64"], unfollowed := true, recurses := true, named := ["internal/strconv.uint64pow10", "math/bits.deBruijn32tab", "math/bits.deBruijn64tab"], apart := false, laid := [("math/bits.deBruijn32tab", laid_math_bits_deBruijn32tab), ("math/bits.deBruijn64tab", laid_math_bits_deBruijn64tab), ("internal/strconv.uint64pow10", laid_internal_strconv_uint64pow10)], narrowed := true }
def FracBestUptoSaid : Prop := fracBestUptoRow.holds Tryd.pinned (OpenSpec.upto fracBestSpec)

/-- 'hornbeamlaw05.FracOrder', WHERE WHAT IT READS IS OF BULK AT MOST 1048576: true; the input reads as it did. -/
def fracOrderUptoRow : OpenClaim := { program := "ytpbgfmbkjojdeaadoor", sum := "43f35b4e1801997cae66cfb9e622a8d242509928329c72b11581d0f3a1c00a71", func := "hornbeam/hornbeamlaw05.FracOrder", spec := "fracOrder", inPlace := ["math/bits.Add64"], named := ["internal/strconv.uint64pow10", "math/bits.deBruijn32tab", "math/bits.deBruijn64tab"], apart := false, laid := [("math/bits.deBruijn32tab", laid_math_bits_deBruijn32tab), ("math/bits.deBruijn64tab", laid_math_bits_deBruijn64tab), ("internal/strconv.uint64pow10", laid_internal_strconv_uint64pow10)], narrowed := true }
def FracOrderUptoSaid : Prop := fracOrderUptoRow.holds Tryd.pinned (OpenSpec.upto fracOrderSpec)

/-- 'hornbeamlaw05.FracSame', WHERE WHAT IT READS IS OF BULK AT MOST 1048576: true; the input reads as it did. -/
def fracSameUptoRow : OpenClaim := { program := "ytpbgfmbkjojdeaadoor", sum := "43f35b4e1801997cae66cfb9e622a8d242509928329c72b11581d0f3a1c00a71", func := "hornbeam/hornbeamlaw05.FracSame", spec := "fracSame", inPlace := ["math/bits.Add64"], named := ["internal/strconv.uint64pow10", "math/bits.deBruijn32tab", "math/bits.deBruijn64tab"], apart := false, laid := [("math/bits.deBruijn32tab", laid_math_bits_deBruijn32tab), ("math/bits.deBruijn64tab", laid_math_bits_deBruijn64tab), ("internal/strconv.uint64pow10", laid_internal_strconv_uint64pow10)], narrowed := true }
def FracSameUptoSaid : Prop := fracSameUptoRow.holds Tryd.pinned (OpenSpec.upto fracSameSpec)

end Rows
end Go.Proofs.YtpbgfmbkjojdeaaDoor
