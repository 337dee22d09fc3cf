-- Written by xprint.py, this session's driver over the kit's print.py, out of the translation.
import Derived.Test.YtifpdpfjhjoieaaProg
import Derived.Below
import Derived.Deep.Draws
import Derived.Deep.AppendLies
import Derived.Maps.AppendAt
import Derived.OwnWalk
import Derived.Laws.BytesArg
import Derived.Laws.MakeOwn
import Derived.Laws.OwnMore
import Derived.Deep.OwnRows
import Derived.Tactics
import Derived.Lib.ConvBytes
import Derived.Laws.Slices
import Derived.WalkKit
import Derived.KernelRfl
import Derived.RowKit3
import Derived.Deep.LoopGhost
import Derived.Deep.QuietTactic
import Derived.BigQuiet
import Derived.WideLaws
import Derived.Deep.DeepCutAuto
import Derived.Deep.CutBlock
import Derived.Deep.RegionHeld3
import Derived.Laws.Rows
import Derived.Lib.AppendStr
import Derived.ArgAppend
import Derived.Laws.IdiomCopy
import Derived.OrdersHeld
import Derived.Laws.BitsLemmas
import Derived.RowKit
import Derived.Test.YtifpdpfjhjoieaaX8
import Derived.Test.YtifpdpfjhjoieaaJWords
import Derived.Test.YtifpdpfjhjoieaaJLast
import Derived.Test.YtifpdpfjhjoieaaJTab
import Derived.Test.YtifpdpfjhjoieaaJFour
import Derived.Test.YtifpdpfjhjoieaaJQPut
import Derived.Test.YtifpdpfjhjoieaaJApart
import Derived.Test.YtifpdpfjhjoieaaJArr
import Derived.Test.YtifpdpfjhjoieaaJZeros
import Derived.Test.YtifpdpfjhjoieaaJFoot
import Derived.Test.YtifpdpfjhjoieaaJKept
import Derived.Test.YtifpdpfjhjoieaaJShare
import Derived.Test.YtifpdpfjhjoieaaJN
import Derived.Test.YtifpdpfjhjoieaaJFootNe
import Derived.Test.YtifpdpfjhjoieaaJAt
import Derived.Test.YtifpdpfjhjoieaaJEqStruct
import Derived.Test.YtifpdpfjhjoieaaJRepsOne
import Derived.Test.YtifpdpfjhjoieaaJInv
import Derived.Test.YtifpdpfjhjoieaaJInvWords
import Derived.Test.YtifpdpfjhjoieaaJGuard
import Derived.Test.YtifpdpfjhjoieaaJNEv
import Derived.Test.YtifpdpfjhjoieaaJMore
namespace Go.Proofs.Ytifpdpfjhjoieaa.P
open Go.RowKit Go.Proofs.YtifpdpfjhjoieaaW.PrintWords Go.Proofs.YtifpdpfjhjoieaaW.PrintLast Go.Proofs.YtifpdpfjhjoieaaW.PrintMore
attribute [local go_sem] max2_int min2_int max_two min_two max_three min_three max_four min_four   -- for this text's walks alone
set_option linter.unusedVariables false
set_option linter.unusedSimpArgs false



def errW : Option Int → Value
  | none => .nilIface
  | some c => .iface 0 (.int .i64 c)
theorem errW_none : errW none = .nilIface := rfl
theorem errW_some (c : Int) : errW (some c) = .iface 0 (.int .i64 c) := rfl

-- the values' own types

end Go.Proofs.Ytifpdpfjhjoieaa.P
