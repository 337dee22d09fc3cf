-- Written by xprint.py, this session's driver over the kit's print.py, out of the translation.
import Derived.Test.YtpdgeanicciaiaaProg
import Derived.Below
import Derived.Deep.Draws
import Derived.Deep.AppendLies
import Derived.Maps.AppendAt
import Derived.OwnWalk
import Derived.Laws.BytesArg
import Derived.Laws.MakeOwn
import Derived.Laws.OwnMore
import Derived.Deep.OwnRows
import Derived.Tactics
import Derived.Lib.ConvBytes
import Derived.Laws.Slices
import Derived.WalkKit
import Derived.KernelRfl
import Derived.RowKit3
import Derived.Deep.LoopGhost
import Derived.Deep.QuietTactic
import Derived.BigQuiet
import Derived.WideLaws
import Derived.Deep.DeepCutAuto
import Derived.Deep.CutBlock
import Derived.Deep.RegionHeld3
import Derived.Laws.Rows
import Derived.Lib.AppendStr
import Derived.ArgAppend
import Derived.Laws.IdiomCopy
import Derived.OrdersHeld
import Derived.Laws.BitsLemmas
import Derived.RowKit
import Derived.Test.YtpdgeanicciaiaaZ6
import Derived.Test.YtpdgeanicciaiaaVWords
import Derived.Test.YtpdgeanicciaiaaVLast
import Derived.Test.YtpdgeanicciaiaaVTab
import Derived.Test.YtpdgeanicciaiaaVFour
import Derived.Test.YtpdgeanicciaiaaVQPut
import Derived.Test.YtpdgeanicciaiaaVApart
import Derived.Test.YtpdgeanicciaiaaVArr
import Derived.Test.YtpdgeanicciaiaaVZeros
import Derived.Test.YtpdgeanicciaiaaVFoot
import Derived.Test.YtpdgeanicciaiaaVKept
import Derived.Test.YtpdgeanicciaiaaVShare
import Derived.Test.YtpdgeanicciaiaaVN
import Derived.Test.YtpdgeanicciaiaaVFootNe
import Derived.Test.YtpdgeanicciaiaaVAt
import Derived.Test.YtpdgeanicciaiaaVEqStruct
import Derived.Test.YtpdgeanicciaiaaVRepsOne
import Derived.Test.YtpdgeanicciaiaaVInv
import Derived.Test.YtpdgeanicciaiaaVInvWords
import Derived.Test.YtpdgeanicciaiaaVGuard
import Derived.Test.YtpdgeanicciaiaaVNEv
import Derived.Test.YtpdgeanicciaiaaVMore
namespace Go.Proofs.Ytpdgeanicciaiaa.P
open Go.RowKit Go.Proofs.YtpdgeanicciaiaaW.PrintWords Go.Proofs.YtpdgeanicciaiaaW.PrintLast Go.Proofs.YtpdgeanicciaiaaW.PrintMore
attribute [local go_sem] max2_int min2_int max_two min_two max_three min_three max_four min_four   -- for this text's walks alone
set_option linter.unusedVariables false
set_option linter.unusedSimpArgs false



def errW : Option Int → Value
  | none => .nilIface
  | some c => .iface 0 (.int .i64 c)
theorem errW_none : errW none = .nilIface := rfl
theorem errW_some (c : Int) : errW (some c) = .iface 0 (.int .i64 c) := rfl

-- the values' own types

end Go.Proofs.Ytpdgeanicciaiaa.P
