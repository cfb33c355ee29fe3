-- Written by a program of this session (wip/tools/mkprint.py over the kit's print); Lean checks it.
import Derived.Test.YtglicbpnmehloaaProg
import Derived.Below
import Derived.Deep.Draws
import Derived.Deep.AppendLies
import Derived.Maps.AppendAt
import Derived.OwnWalk
import Derived.Laws.BytesArg
import Derived.Laws.MakeOwn
import Derived.Laws.OwnMore
import Derived.Deep.OwnRows
import Derived.Tactics
import Derived.Lib.ConvBytes
import Derived.Laws.Slices
import Derived.WalkKit
import Derived.KernelRfl
import Derived.RowKit3
import Derived.Deep.LoopGhost
import Derived.Deep.QuietTactic
import Derived.BigQuiet
import Derived.WideLaws
import Derived.Deep.DeepCutAuto
import Derived.Deep.CutBlock
import Derived.Deep.RegionHeld3
import Derived.Laws.Rows
import Derived.Lib.AppendStr
import Derived.ArgAppend
import Derived.Laws.IdiomCopy
import Derived.OrdersHeld
import Derived.Laws.BitsLemmas
import Derived.RowKit
import Derived.Test.YtglicbpnmehloaaWWords
import Derived.Test.YtglicbpnmehloaaWLast
import Derived.Test.YtglicbpnmehloaaWTab
import Derived.Test.YtglicbpnmehloaaWFour
import Derived.Test.YtglicbpnmehloaaWQPut
import Derived.Test.YtglicbpnmehloaaWApart
import Derived.Test.YtglicbpnmehloaaWArr
import Derived.Test.YtglicbpnmehloaaWZeros
import Derived.Test.YtglicbpnmehloaaWFoot
import Derived.Test.YtglicbpnmehloaaWKept
import Derived.Test.YtglicbpnmehloaaWShare
import Derived.Test.YtglicbpnmehloaaWN
import Derived.Test.YtglicbpnmehloaaWFootNe
import Derived.Test.YtglicbpnmehloaaWAt
import Derived.Test.YtglicbpnmehloaaWEqStruct
import Derived.Test.YtglicbpnmehloaaWRepsOne
import Derived.Test.YtglicbpnmehloaaWInv
import Derived.Test.YtglicbpnmehloaaWInvWords
import Derived.Test.YtglicbpnmehloaaWGuard
import Derived.Test.YtglicbpnmehloaaWNEv
import Derived.Test.YtglicbpnmehloaaWMore
namespace Go.Proofs.Ytglicbpnmehloaa.QProdWholes
open Go.RowKit Go.Proofs.YtglicbpnmehloaaW.PrintWords Go.Proofs.YtglicbpnmehloaaW.PrintLast Go.Proofs.YtglicbpnmehloaaW.PrintMore
attribute [local go_sem] max2_int min2_int max_two min_two max_three min_three max_four min_four   -- for this text's walks alone
set_option linter.unusedVariables false
set_option linter.unusedSimpArgs false



def errW : Option Int → Value
  | none => .nilIface
  | some c => .iface 0 (.int .i64 c)
theorem errW_none : errW none = .nilIface := rfl
theorem errW_some (c : Int) : errW (some c) = .iface 0 (.int .i64 c) := rfl

theorem info26 : (Try.prog.info? 26).map (fun i => (i.zero, i.size, i.bytes)) = some (some (.int .u64 0), 1, 8) := by kernel_rfl
-- the values' own types

end Go.Proofs.Ytglicbpnmehloaa.QProdWholes
