/-
  No cell of these rows narrows 'for every input' (looked for: loops, veiled, ifaces, maps, wideKeys, modest, calm, conditions, laid).
  DERIVED. THE GIVEN ROWS OF THIS SEAT. 10 by the template 'for every input the law returns true; each argument reads behind the call as it read before'; 0 by the template 'total and deterministic' (their statements: YtoonddgldmfleaaTotals.lean).
  GIVEN WITH THE SEED: the statements are not yours to turn. If you find one false, say at which input.
  Laid BY PROGRAM, IN A SANDBOX (cutbox-rows.mjs): the forced cells as the released guide's own fill.sh prints them over the translation 1e07f958c8895802… (all of the seat's roots in one cut). By AI agents, Wed Nov 11 2026. No macro, syntax, notation, axiom, sorry.
-/
import Derived.Test.YtoonddgldmfleaaChecked
import GoSem.Claim
import GoSem.ClaimJoined
import GoSem.ClaimMapViews
import Derived.JoinedTies
import Derived.KernelRfl
namespace Go.Proofs.Ytoonddgldmfleaa
/- THE CELL 'sum', in the pinned program and in every row, IS THE sha256 OF THE DUMP (.gsa) THAT YtoonddgldmfleaaProg.lean LOADS. Nothing in Lean hashes anything: it is a label: what it is worth is what the hold of that sum in a sandbox is worth. -/
noncomputable def Try.pinned : Pinned := { name := "ytoonddgldmfleaa", sum := "1e07f958c8895802cdde17e995daee71ac14ecb47a5ce0264d49abcb5404ad1f", checked := Try.checked }
namespace Rows
def none {H : Type} : Left H := { results := [], args := [] }

/-- 'hornbeamlaw15.SpreadMay': WHATEVER THE INPUT: true; the input reads as it did. -/
def spreadMaySpec : ChangeSpec := { name := "spreadMay", fn := fun _ => fun
  | [d] => { results := [.lit (.bool true)], args := [d] }
  | _ => none }
def spreadMayRow : OpenClaim := { program := "ytoonddgldmfleaa", sum := "1e07f958c8895802cdde17e995daee71ac14ecb47a5ce0264d49abcb5404ad1f", func := "hornbeam/hornbeamlaw15.SpreadMay", spec := "spreadMay", apart := false }
def SpreadMaySaid : Prop := spreadMayRow.holds Try.pinned (OpenSpec.ofChange spreadMaySpec)

/-- ITS FALSE NEIGHBOUR: 'it returns false'. Refute it at one input. -/
def spreadMayWrong : ChangeSpec := { name := "spreadMay", fn := fun _ => fun
  | [d] => { results := [.lit (.bool false)], args := [d] }
  | _ => none }
def SpreadMayWrongFalsely : Prop := spreadMayRow.holds Try.pinned (OpenSpec.ofChange spreadMayWrong)

/-- 'hornbeamlaw15.SpreadLess': WHATEVER THE INPUT: true; the input reads as it did. -/
def spreadLessSpec : ChangeSpec := { name := "spreadLess", fn := fun _ => fun
  | [d] => { results := [.lit (.bool true)], args := [d] }
  | _ => none }
def spreadLessRow : OpenClaim := { program := "ytoonddgldmfleaa", sum := "1e07f958c8895802cdde17e995daee71ac14ecb47a5ce0264d49abcb5404ad1f", func := "hornbeam/hornbeamlaw15.SpreadLess", spec := "spreadLess", apart := false }
def SpreadLessSaid : Prop := spreadLessRow.holds Try.pinned (OpenSpec.ofChange spreadLessSpec)

/-- ITS FALSE NEIGHBOUR: 'it returns false'. Refute it at one input. -/
def spreadLessWrong : ChangeSpec := { name := "spreadLess", fn := fun _ => fun
  | [d] => { results := [.lit (.bool false)], args := [d] }
  | _ => none }
def SpreadLessWrongFalsely : Prop := spreadLessRow.holds Try.pinned (OpenSpec.ofChange spreadLessWrong)

/-- 'hornbeamlaw21.SchedPlays': WHATEVER THE INPUT: true; the input reads as it did. -/
def schedPlaysSpec : ChangeSpec := { name := "schedPlays", fn := fun _ => fun
  | [d1, d2, d3] => { results := [.lit (.bool true)], args := [d1, d2, d3] }
  | _ => none }
def schedPlaysRow : OpenClaim := { program := "ytoonddgldmfleaa", sum := "1e07f958c8895802cdde17e995daee71ac14ecb47a5ce0264d49abcb5404ad1f", func := "hornbeam/hornbeamlaw21.SchedPlays", spec := "schedPlays", unfollowed := true, recurses := true, apart := false }
def SchedPlaysSaid : Prop := schedPlaysRow.holds Try.pinned (OpenSpec.ofChange schedPlaysSpec)

/-- ITS FALSE NEIGHBOUR: 'it returns false'. Refute it at one input. -/
def schedPlaysWrong : ChangeSpec := { name := "schedPlays", fn := fun _ => fun
  | [d1, d2, d3] => { results := [.lit (.bool false)], args := [d1, d2, d3] }
  | _ => none }
def SchedPlaysWrongFalsely : Prop := schedPlaysRow.holds Try.pinned (OpenSpec.ofChange schedPlaysWrong)

/-- 'hornbeamlaw21.SchedOnce': WHATEVER THE INPUT: true; the input reads as it did. -/
def schedOnceSpec : ChangeSpec := { name := "schedOnce", fn := fun _ => fun
  | [d1, d2, d3] => { results := [.lit (.bool true)], args := [d1, d2, d3] }
  | _ => none }
def schedOnceRow : OpenClaim := { program := "ytoonddgldmfleaa", sum := "1e07f958c8895802cdde17e995daee71ac14ecb47a5ce0264d49abcb5404ad1f", func := "hornbeam/hornbeamlaw21.SchedOnce", spec := "schedOnce", unfollowed := true, recurses := true, apart := false }
def SchedOnceSaid : Prop := schedOnceRow.holds Try.pinned (OpenSpec.ofChange schedOnceSpec)

/-- ITS FALSE NEIGHBOUR: 'it returns false'. Refute it at one input. -/
def schedOnceWrong : ChangeSpec := { name := "schedOnce", fn := fun _ => fun
  | [d1, d2, d3] => { results := [.lit (.bool false)], args := [d1, d2, d3] }
  | _ => none }
def SchedOnceWrongFalsely : Prop := schedOnceRow.holds Try.pinned (OpenSpec.ofChange schedOnceWrong)

/-- 'hornbeamlaw15.SpreadNever': WHATEVER THE INPUT: true; the input reads as it did. -/
def spreadNeverSpec : ChangeSpec := { name := "spreadNever", fn := fun _ => fun
  | [d1, d2] => { results := [.lit (.bool true)], args := [d1, d2] }
  | _ => none }
def spreadNeverRow : OpenClaim := { program := "ytoonddgldmfleaa", sum := "1e07f958c8895802cdde17e995daee71ac14ecb47a5ce0264d49abcb5404ad1f", func := "hornbeam/hornbeamlaw15.SpreadNever", spec := "spreadNever", inPlace := ["math/bits.Add64"], apart := false }
def SpreadNeverSaid : Prop := spreadNeverRow.holds Try.pinned (OpenSpec.ofChange spreadNeverSpec)

/-- ITS FALSE NEIGHBOUR: 'it returns false'. Refute it at one input. -/
def spreadNeverWrong : ChangeSpec := { name := "spreadNever", fn := fun _ => fun
  | [d1, d2] => { results := [.lit (.bool false)], args := [d1, d2] }
  | _ => none }
def SpreadNeverWrongFalsely : Prop := spreadNeverRow.holds Try.pinned (OpenSpec.ofChange spreadNeverWrong)

/-- 'hornbeamlaw15.SpreadShift': WHATEVER THE INPUT: true; the input reads as it did. -/
def spreadShiftSpec : ChangeSpec := { name := "spreadShift", fn := fun _ => fun
  | [d1, d2] => { results := [.lit (.bool true)], args := [d1, d2] }
  | _ => none }
def spreadShiftRow : OpenClaim := { program := "ytoonddgldmfleaa", sum := "1e07f958c8895802cdde17e995daee71ac14ecb47a5ce0264d49abcb5404ad1f", func := "hornbeam/hornbeamlaw15.SpreadShift", spec := "spreadShift", inPlace := ["math/bits.Add64"], unfollowed := true, recurses := true, apart := false }
def SpreadShiftSaid : Prop := spreadShiftRow.holds Try.pinned (OpenSpec.ofChange spreadShiftSpec)

/-- ITS FALSE NEIGHBOUR: 'it returns false'. Refute it at one input. -/
def spreadShiftWrong : ChangeSpec := { name := "spreadShift", fn := fun _ => fun
  | [d1, d2] => { results := [.lit (.bool false)], args := [d1, d2] }
  | _ => none }
def SpreadShiftWrongFalsely : Prop := spreadShiftRow.holds Try.pinned (OpenSpec.ofChange spreadShiftWrong)

/-- 'hornbeamlaw15.SpreadScores': WHATEVER THE INPUT: true; the input reads as it did. -/
def spreadScoresSpec : ChangeSpec := { name := "spreadScores", fn := fun _ => fun
  | [d1, d2] => { results := [.lit (.bool true)], args := [d1, d2] }
  | _ => none }
def spreadScoresRow : OpenClaim := { program := "ytoonddgldmfleaa", sum := "1e07f958c8895802cdde17e995daee71ac14ecb47a5ce0264d49abcb5404ad1f", func := "hornbeam/hornbeamlaw15.SpreadScores", spec := "spreadScores", inPlace := ["math/bits.Add64"], apart := false }
def SpreadScoresSaid : Prop := spreadScoresRow.holds Try.pinned (OpenSpec.ofChange spreadScoresSpec)

/-- ITS FALSE NEIGHBOUR: 'it returns false'. Refute it at one input. -/
def spreadScoresWrong : ChangeSpec := { name := "spreadScores", fn := fun _ => fun
  | [d1, d2] => { results := [.lit (.bool false)], args := [d1, d2] }
  | _ => none }
def SpreadScoresWrongFalsely : Prop := spreadScoresRow.holds Try.pinned (OpenSpec.ofChange spreadScoresWrong)

/-- 'hornbeamlaw21.SchedEnds': WHATEVER THE INPUT: true; the input reads as it did. -/
def schedEndsSpec : ChangeSpec := { name := "schedEnds", fn := fun _ => fun
  | [d1, d2, d3] => { results := [.lit (.bool true)], args := [d1, d2, d3] }
  | _ => none }
def schedEndsRow : OpenClaim := { program := "ytoonddgldmfleaa", sum := "1e07f958c8895802cdde17e995daee71ac14ecb47a5ce0264d49abcb5404ad1f", func := "hornbeam/hornbeamlaw21.SchedEnds", spec := "schedEnds", unfollowed := true, recurses := true, apart := false }
def SchedEndsSaid : Prop := schedEndsRow.holds Try.pinned (OpenSpec.ofChange schedEndsSpec)

/-- ITS FALSE NEIGHBOUR: 'it returns false'. Refute it at one input. -/
def schedEndsWrong : ChangeSpec := { name := "schedEnds", fn := fun _ => fun
  | [d1, d2, d3] => { results := [.lit (.bool false)], args := [d1, d2, d3] }
  | _ => none }
def SchedEndsWrongFalsely : Prop := schedEndsRow.holds Try.pinned (OpenSpec.ofChange schedEndsWrong)

/-- 'hornbeamlaw21.SchedSteps': WHATEVER THE INPUT: true; the input reads as it did. -/
def schedStepsSpec : ChangeSpec := { name := "schedSteps", fn := fun _ => fun
  | [d1, d2] => { results := [.lit (.bool true)], args := [d1, d2] }
  | _ => none }
def schedStepsRow : OpenClaim := { program := "ytoonddgldmfleaa", sum := "1e07f958c8895802cdde17e995daee71ac14ecb47a5ce0264d49abcb5404ad1f", func := "hornbeam/hornbeamlaw21.SchedSteps", spec := "schedSteps", unfollowed := true, recurses := true, apart := false }
def SchedStepsSaid : Prop := schedStepsRow.holds Try.pinned (OpenSpec.ofChange schedStepsSpec)

/-- ITS FALSE NEIGHBOUR: 'it returns false'. Refute it at one input. -/
def schedStepsWrong : ChangeSpec := { name := "schedSteps", fn := fun _ => fun
  | [d1, d2] => { results := [.lit (.bool false)], args := [d1, d2] }
  | _ => none }
def SchedStepsWrongFalsely : Prop := schedStepsRow.holds Try.pinned (OpenSpec.ofChange schedStepsWrong)

/-- 'hornbeamlaw21.SchedKeeps': WHATEVER THE INPUT: true; the input reads as it did. -/
def schedKeepsSpec : ChangeSpec := { name := "schedKeeps", fn := fun _ => fun
  | [d] => { results := [.lit (.bool true)], args := [d] }
  | _ => none }
def schedKeepsRow : OpenClaim := { program := "ytoonddgldmfleaa", sum := "1e07f958c8895802cdde17e995daee71ac14ecb47a5ce0264d49abcb5404ad1f", func := "hornbeam/hornbeamlaw21.SchedKeeps", spec := "schedKeeps", unfollowed := true, recurses := true, apart := false }
def SchedKeepsSaid : Prop := schedKeepsRow.holds Try.pinned (OpenSpec.ofChange schedKeepsSpec)

/-- ITS FALSE NEIGHBOUR: 'it returns false'. Refute it at one input. -/
def schedKeepsWrong : ChangeSpec := { name := "schedKeeps", fn := fun _ => fun
  | [d] => { results := [.lit (.bool false)], args := [d] }
  | _ => none }
def SchedKeepsWrongFalsely : Prop := schedKeepsRow.holds Try.pinned (OpenSpec.ofChange schedKeepsWrong)

/- THE SECOND FORM. 'bulk': how many values and letters a reading holds, each counted each time it is reached (what is shared counts as often as it is met; a slice's spare places count too). A statement '..UptoSaid' is the law's where the arguments, and the package variables that the reading takes, are together of bulk at most 1048576: NARROWER than '..Said'. Prove '..Said' where nothing that the law and all that it calls make is longer than what came in: it says more and counts as full. Else prove '..UptoSaid'. A law counts once. -/
mutual
def uptoBulk {H : Type} : DataW H → Nat
  | .lit (.string bytes) => bytes.length + 1
  | .lit _ => 1
  | .nil => 1
  | .ptr d => uptoBulk d + 1
  | .slice elems spare => uptoBulkAll elems + uptoBulkAll spare + 1
  | .agg parts => uptoBulkAll parts + 1
  | .iface _ d => uptoBulk d + 1
  | .map entries => uptoBulkEntries entries + 1
  | .held _ => 1
def uptoBulkAll {H : Type} : List (DataW H) → Nat
  | [] => 0
  | d :: r => uptoBulk d + uptoBulkAll r
def uptoBulkEntries {H : Type} : List (Lit × DataW H) → Nat
  | [] => 0
  | x :: r => uptoBulkEntry x + uptoBulkEntries r
def uptoBulkEntry {H : Type} : Lit × DataW H → Nat
  | (.string bytes, d) => bytes.length + uptoBulk d + 1
  | (_, d) => uptoBulk d + 1
 end
def uptoSmall : (H : Type) → List (DataW H) → Bool := fun _ ds => decide (uptoBulkAll ds ≤ 1048576)
def OpenSpec.upto (s : _root_.Go.ChangeSpec) : _root_.Go.OpenSpec := { _root_.Go.OpenSpec.ofChange s with cond := some uptoSmall }

/-- 'hornbeamlaw15.SpreadMay', WHERE WHAT IT READS IS OF BULK AT MOST 1048576: true; the input reads as it did. -/
def spreadMayUptoRow : OpenClaim := { program := "ytoonddgldmfleaa", sum := "1e07f958c8895802cdde17e995daee71ac14ecb47a5ce0264d49abcb5404ad1f", func := "hornbeam/hornbeamlaw15.SpreadMay", spec := "spreadMay", apart := false, narrowed := true }
def SpreadMayUptoSaid : Prop := spreadMayUptoRow.holds Try.pinned (OpenSpec.upto spreadMaySpec)

/-- 'hornbeamlaw15.SpreadLess', WHERE WHAT IT READS IS OF BULK AT MOST 1048576: true; the input reads as it did. -/
def spreadLessUptoRow : OpenClaim := { program := "ytoonddgldmfleaa", sum := "1e07f958c8895802cdde17e995daee71ac14ecb47a5ce0264d49abcb5404ad1f", func := "hornbeam/hornbeamlaw15.SpreadLess", spec := "spreadLess", apart := false, narrowed := true }
def SpreadLessUptoSaid : Prop := spreadLessUptoRow.holds Try.pinned (OpenSpec.upto spreadLessSpec)

/-- 'hornbeamlaw21.SchedPlays', WHERE WHAT IT READS IS OF BULK AT MOST 1048576: true; the input reads as it did. -/
def schedPlaysUptoRow : OpenClaim := { program := "ytoonddgldmfleaa", sum := "1e07f958c8895802cdde17e995daee71ac14ecb47a5ce0264d49abcb5404ad1f", func := "hornbeam/hornbeamlaw21.SchedPlays", spec := "schedPlays", unfollowed := true, recurses := true, apart := false, narrowed := true }
def SchedPlaysUptoSaid : Prop := schedPlaysUptoRow.holds Try.pinned (OpenSpec.upto schedPlaysSpec)

/-- 'hornbeamlaw21.SchedOnce', WHERE WHAT IT READS IS OF BULK AT MOST 1048576: true; the input reads as it did. -/
def schedOnceUptoRow : OpenClaim := { program := "ytoonddgldmfleaa", sum := "1e07f958c8895802cdde17e995daee71ac14ecb47a5ce0264d49abcb5404ad1f", func := "hornbeam/hornbeamlaw21.SchedOnce", spec := "schedOnce", unfollowed := true, recurses := true, apart := false, narrowed := true }
def SchedOnceUptoSaid : Prop := schedOnceUptoRow.holds Try.pinned (OpenSpec.upto schedOnceSpec)

/-- 'hornbeamlaw15.SpreadNever', WHERE WHAT IT READS IS OF BULK AT MOST 1048576: true; the input reads as it did. -/
def spreadNeverUptoRow : OpenClaim := { program := "ytoonddgldmfleaa", sum := "1e07f958c8895802cdde17e995daee71ac14ecb47a5ce0264d49abcb5404ad1f", func := "hornbeam/hornbeamlaw15.SpreadNever", spec := "spreadNever", inPlace := ["math/bits.Add64"], apart := false, narrowed := true }
def SpreadNeverUptoSaid : Prop := spreadNeverUptoRow.holds Try.pinned (OpenSpec.upto spreadNeverSpec)

/-- 'hornbeamlaw15.SpreadShift', WHERE WHAT IT READS IS OF BULK AT MOST 1048576: true; the input reads as it did. -/
def spreadShiftUptoRow : OpenClaim := { program := "ytoonddgldmfleaa", sum := "1e07f958c8895802cdde17e995daee71ac14ecb47a5ce0264d49abcb5404ad1f", func := "hornbeam/hornbeamlaw15.SpreadShift", spec := "spreadShift", inPlace := ["math/bits.Add64"], unfollowed := true, recurses := true, apart := false, narrowed := true }
def SpreadShiftUptoSaid : Prop := spreadShiftUptoRow.holds Try.pinned (OpenSpec.upto spreadShiftSpec)

/-- 'hornbeamlaw15.SpreadScores', WHERE WHAT IT READS IS OF BULK AT MOST 1048576: true; the input reads as it did. -/
def spreadScoresUptoRow : OpenClaim := { program := "ytoonddgldmfleaa", sum := "1e07f958c8895802cdde17e995daee71ac14ecb47a5ce0264d49abcb5404ad1f", func := "hornbeam/hornbeamlaw15.SpreadScores", spec := "spreadScores", inPlace := ["math/bits.Add64"], apart := false, narrowed := true }
def SpreadScoresUptoSaid : Prop := spreadScoresUptoRow.holds Try.pinned (OpenSpec.upto spreadScoresSpec)

/-- 'hornbeamlaw21.SchedEnds', WHERE WHAT IT READS IS OF BULK AT MOST 1048576: true; the input reads as it did. -/
def schedEndsUptoRow : OpenClaim := { program := "ytoonddgldmfleaa", sum := "1e07f958c8895802cdde17e995daee71ac14ecb47a5ce0264d49abcb5404ad1f", func := "hornbeam/hornbeamlaw21.SchedEnds", spec := "schedEnds", unfollowed := true, recurses := true, apart := false, narrowed := true }
def SchedEndsUptoSaid : Prop := schedEndsUptoRow.holds Try.pinned (OpenSpec.upto schedEndsSpec)

/-- 'hornbeamlaw21.SchedSteps', WHERE WHAT IT READS IS OF BULK AT MOST 1048576: true; the input reads as it did. -/
def schedStepsUptoRow : OpenClaim := { program := "ytoonddgldmfleaa", sum := "1e07f958c8895802cdde17e995daee71ac14ecb47a5ce0264d49abcb5404ad1f", func := "hornbeam/hornbeamlaw21.SchedSteps", spec := "schedSteps", unfollowed := true, recurses := true, apart := false, narrowed := true }
def SchedStepsUptoSaid : Prop := schedStepsUptoRow.holds Try.pinned (OpenSpec.upto schedStepsSpec)

/-- 'hornbeamlaw21.SchedKeeps', WHERE WHAT IT READS IS OF BULK AT MOST 1048576: true; the input reads as it did. -/
def schedKeepsUptoRow : OpenClaim := { program := "ytoonddgldmfleaa", sum := "1e07f958c8895802cdde17e995daee71ac14ecb47a5ce0264d49abcb5404ad1f", func := "hornbeam/hornbeamlaw21.SchedKeeps", spec := "schedKeeps", unfollowed := true, recurses := true, apart := false, narrowed := true }
def SchedKeepsUptoSaid : Prop := schedKeepsUptoRow.holds Try.pinned (OpenSpec.upto schedKeepsSpec)

end Rows
end Go.Proofs.Ytoonddgldmfleaa
