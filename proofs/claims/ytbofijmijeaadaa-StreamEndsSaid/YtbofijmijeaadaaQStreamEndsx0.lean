-- Written by a program of this session (wip/tools/mkprint.py over the kit's print); Lean checks it.
import Derived.Test.YtbofijmijeaadaaProg
import Derived.Below
import Derived.Deep.Draws
import Derived.Deep.AppendLies
import Derived.Maps.AppendAt
import Derived.OwnWalk
import Derived.Laws.BytesArg
import Derived.Laws.MakeOwn
import Derived.Laws.OwnMore
import Derived.Deep.OwnRows
import Derived.Tactics
import Derived.Lib.ConvBytes
import Derived.Laws.Slices
import Derived.WalkKit
import Derived.KernelRfl
import Derived.RowKit3
import Derived.Deep.LoopGhost
import Derived.Deep.QuietTactic
import Derived.BigQuiet
import Derived.WideLaws
import Derived.Deep.DeepCutAuto
import Derived.Deep.CutBlock
import Derived.Deep.RegionHeld3
import Derived.Laws.Rows
import Derived.Lib.AppendStr
import Derived.ArgAppend
import Derived.Laws.IdiomCopy
import Derived.OrdersHeld
import Derived.Laws.BitsLemmas
import Derived.RowKit
import Derived.Test.YtbofijmijeaadaaU64
import Derived.Test.YtbofijmijeaadaaWWords
import Derived.Test.YtbofijmijeaadaaWLast
import Derived.Test.YtbofijmijeaadaaWTab
import Derived.Test.YtbofijmijeaadaaWFour
import Derived.Test.YtbofijmijeaadaaWQPut
import Derived.Test.YtbofijmijeaadaaWApart
import Derived.Test.YtbofijmijeaadaaWArr
import Derived.Test.YtbofijmijeaadaaWZeros
import Derived.Test.YtbofijmijeaadaaWFoot
import Derived.Test.YtbofijmijeaadaaWKept
import Derived.Test.YtbofijmijeaadaaWShare
import Derived.Test.YtbofijmijeaadaaWN
import Derived.Test.YtbofijmijeaadaaWFootNe
import Derived.Test.YtbofijmijeaadaaWAt
import Derived.Test.YtbofijmijeaadaaWEqStruct
import Derived.Test.YtbofijmijeaadaaWRepsOne
import Derived.Test.YtbofijmijeaadaaWInv
import Derived.Test.YtbofijmijeaadaaWInvWords
import Derived.Test.YtbofijmijeaadaaWGuard
import Derived.Test.YtbofijmijeaadaaWNEv
import Derived.Test.YtbofijmijeaadaaWMore
namespace Go.Proofs.Ytbofijmijeaadaa.QStreamEnds
open Go.RowKit Go.Proofs.YtbofijmijeaadaaW.PrintWords Go.Proofs.YtbofijmijeaadaaW.PrintLast Go.Proofs.YtbofijmijeaadaaW.PrintMore
attribute [local go_sem] max2_int min2_int max_two min_two max_three min_three max_four min_four   -- for this text's walks alone
set_option linter.unusedVariables false
set_option linter.unusedSimpArgs false



def errW : Option Int → Value
  | none => .nilIface
  | some c => .iface 0 (.int .i64 c)
theorem errW_none : errW none = .nilIface := rfl
theorem errW_some (c : Int) : errW (some c) = .iface 0 (.int .i64 c) := rfl

-- short names, for a long walk
theorem bN : type_of% @blk_drewN := @blk_drewN
theorem bD : type_of% @blk_drew := @blk_drew
theorem bA : type_of% @blk_alloc := @blk_alloc
theorem lN : type_of% @pw_below_drewN := @pw_below_drewN
theorem lA : type_of% @below_alloc := @below_alloc
theorem lD : type_of% @below_drew1 := @below_drew1
theorem lS : type_of% @below_set := @below_set
theorem lZ : type_of% @below_size := @below_size
theorem lP : type_of% @below_step := @below_step
theorem bB : type_of% @blk_below := @blk_below
theorem bC : type_of% @blk_cell := @blk_cell
theorem bF : type_of% @blk_frozen := @blk_frozen
theorem bL : type_of% @blk_lt := @blk_lt

-- the values' own types

end Go.Proofs.Ytbofijmijeaadaa.QStreamEnds
