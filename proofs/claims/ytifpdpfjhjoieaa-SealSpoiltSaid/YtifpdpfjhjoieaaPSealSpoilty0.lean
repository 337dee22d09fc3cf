-- Written by xprint.py, this session's driver over the kit's print.py, out of the translation.
import Derived.Test.YtifpdpfjhjoieaaProg
import Derived.Below
import Derived.Deep.Draws
import Derived.Deep.AppendLies
import Derived.Maps.AppendAt
import Derived.OwnWalk
import Derived.Laws.BytesArg
import Derived.Laws.MakeOwn
import Derived.Laws.OwnMore
import Derived.Deep.OwnRows
import Derived.Tactics
import Derived.Lib.ConvBytes
import Derived.Laws.Slices
import Derived.WalkKit
import Derived.KernelRfl
import Derived.RowKit3
import Derived.Deep.LoopGhost
import Derived.Deep.QuietTactic
import Derived.BigQuiet
import Derived.WideLaws
import Derived.Deep.DeepCutAuto
import Derived.Deep.CutBlock
import Derived.Deep.RegionHeld3
import Derived.Laws.Rows
import Derived.Lib.AppendStr
import Derived.ArgAppend
import Derived.Laws.IdiomCopy
import Derived.OrdersHeld
import Derived.Laws.BitsLemmas
import Derived.RowKit
import Derived.Test.YtifpdpfjhjoieaaZ5
import Derived.Test.YtifpdpfjhjoieaaVWords
import Derived.Test.YtifpdpfjhjoieaaVLast
import Derived.Test.YtifpdpfjhjoieaaVTab
import Derived.Test.YtifpdpfjhjoieaaVFour
import Derived.Test.YtifpdpfjhjoieaaVQPut
import Derived.Test.YtifpdpfjhjoieaaVApart
import Derived.Test.YtifpdpfjhjoieaaVArr
import Derived.Test.YtifpdpfjhjoieaaVZeros
import Derived.Test.YtifpdpfjhjoieaaVFoot
import Derived.Test.YtifpdpfjhjoieaaVKept
import Derived.Test.YtifpdpfjhjoieaaVShare
import Derived.Test.YtifpdpfjhjoieaaVN
import Derived.Test.YtifpdpfjhjoieaaVFootNe
import Derived.Test.YtifpdpfjhjoieaaVAt
import Derived.Test.YtifpdpfjhjoieaaVEqStruct
import Derived.Test.YtifpdpfjhjoieaaVRepsOne
import Derived.Test.YtifpdpfjhjoieaaVInv
import Derived.Test.YtifpdpfjhjoieaaVInvWords
import Derived.Test.YtifpdpfjhjoieaaVGuard
import Derived.Test.YtifpdpfjhjoieaaVNEv
import Derived.Test.YtifpdpfjhjoieaaVMore
namespace Go.Proofs.Ytifpdpfjhjoieaa.P
open Go.RowKit Go.Proofs.YtifpdpfjhjoieaaW.PrintWords Go.Proofs.YtifpdpfjhjoieaaW.PrintLast Go.Proofs.YtifpdpfjhjoieaaW.PrintMore
attribute [local go_sem] max2_int min2_int max_two min_two max_three min_three max_four min_four   -- for this text's walks alone
set_option linter.unusedVariables false
set_option linter.unusedSimpArgs false



def errW : Option Int → Value
  | none => .nilIface
  | some c => .iface 0 (.int .i64 c)
theorem errW_none : errW none = .nilIface := rfl
theorem errW_some (c : Int) : errW (some c) = .iface 0 (.int .i64 c) := rfl

theorem info5 : (Try.prog.info? 5).map (fun i => (i.zero, i.size, i.bytes)) = some (some (.int .u8 0), 1, 1) := by kernel_rfl
-- the values' own types

end Go.Proofs.Ytifpdpfjhjoieaa.P
