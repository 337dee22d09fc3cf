-- Written by xprint.py, this session's driver over the kit's print.py, out of the translation.
import Derived.Test.YtamaokokbajlgaaProg
import Derived.Below
import Derived.Deep.Draws
import Derived.Deep.AppendLies
import Derived.Maps.AppendAt
import Derived.OwnWalk
import Derived.Laws.BytesArg
import Derived.Laws.MakeOwn
import Derived.Laws.OwnMore
import Derived.Deep.OwnRows
import Derived.Tactics
import Derived.Lib.ConvBytes
import Derived.Laws.Slices
import Derived.WalkKit
import Derived.KernelRfl
import Derived.RowKit3
import Derived.Deep.LoopGhost
import Derived.Deep.QuietTactic
import Derived.BigQuiet
import Derived.WideLaws
import Derived.Deep.DeepCutAuto
import Derived.Deep.CutBlock
import Derived.Deep.RegionHeld3
import Derived.Laws.Rows
import Derived.Lib.AppendStr
import Derived.ArgAppend
import Derived.Laws.IdiomCopy
import Derived.OrdersHeld
import Derived.Laws.BitsLemmas
import Derived.RowKit
import Derived.Test.YtamaokokbajlgaaMul
import Derived.Test.YtamaokokbajlgaaWWords
import Derived.Test.YtamaokokbajlgaaWLast
import Derived.Test.YtamaokokbajlgaaWTab
import Derived.Test.YtamaokokbajlgaaWFour
import Derived.Test.YtamaokokbajlgaaWQPut
import Derived.Test.YtamaokokbajlgaaWApart
import Derived.Test.YtamaokokbajlgaaWArr
import Derived.Test.YtamaokokbajlgaaWZeros
import Derived.Test.YtamaokokbajlgaaWFoot
import Derived.Test.YtamaokokbajlgaaWKept
import Derived.Test.YtamaokokbajlgaaWShare
import Derived.Test.YtamaokokbajlgaaWN
import Derived.Test.YtamaokokbajlgaaWFootNe
import Derived.Test.YtamaokokbajlgaaWAt
import Derived.Test.YtamaokokbajlgaaWEqStruct
import Derived.Test.YtamaokokbajlgaaWRepsOne
import Derived.Test.YtamaokokbajlgaaWInv
import Derived.Test.YtamaokokbajlgaaWInvWords
import Derived.Test.YtamaokokbajlgaaWGuard
import Derived.Test.YtamaokokbajlgaaWNEv
import Derived.Test.YtamaokokbajlgaaWMore
namespace Go.Proofs.Ytamaokokbajlgaa.K
open Go.Proofs.Ytamaokokbajlgaa.P
open Go.RowKit Go.Proofs.YtamaokokbajlgaaW.PrintWords Go.Proofs.YtamaokokbajlgaaW.PrintLast Go.Proofs.YtamaokokbajlgaaW.PrintMore
attribute [local go_sem] max2_int min2_int max_two min_two max_three min_three max_four min_four   -- for this text's walks alone
set_option linter.unusedVariables false
set_option linter.unusedSimpArgs false



def errW : Option Int → Value
  | none => .nilIface
  | some c => .iface 0 (.int .i64 c)
theorem errW_none : errW none = .nilIface := rfl
theorem errW_some (c : Int) : errW (some c) = .iface 0 (.int .i64 c) := rfl

theorem info3 : (Try.prog.info? 3).map (fun i => (i.zero, i.size, i.bytes)) = some (some (.int .i64 0), 1, 8) := by kernel_rfl
-- the values' own types

end Go.Proofs.Ytamaokokbajlgaa.K
