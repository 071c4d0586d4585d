/- Written by wip/myprint.py of this session, out of Lean's print of the program: what Go functions come to, and that their calls come to it; no condition. -/
import Derived.Test.YtpnldhimlpilhaaProg
import Derived.Below
import Derived.Deep.Draws
import Derived.Deep.AppendLies
import Derived.Maps.AppendAt
import Derived.OwnWalk
import Derived.Laws.BytesArg
import Derived.Laws.MakeOwn
import Derived.Laws.OwnMore
import Derived.Deep.OwnRows
import Derived.Tactics
import Derived.Lib.ConvBytes
import Derived.Laws.Slices
import Derived.WalkKit
import Derived.KernelRfl
import Derived.RowKit3
import Derived.Deep.LoopGhost
import Derived.Deep.QuietTactic
import Derived.BigQuiet
import Derived.WideLaws
import Derived.Deep.DeepCutAuto
import Derived.Deep.CutBlock
import Derived.Deep.RegionHeld3
import Derived.Laws.Rows
import Derived.Lib.AppendStr
import Derived.ArgAppend
import Derived.Laws.IdiomCopy
import Derived.OrdersHeld
import Derived.Laws.BitsLemmas
import Derived.RowKit
import Derived.Test.YtpnldhimlpilhaaOp
import Derived.Test.YtpnldhimlpilhaaWWords
import Derived.Test.YtpnldhimlpilhaaWLast
import Derived.Test.YtpnldhimlpilhaaWTab
import Derived.Test.YtpnldhimlpilhaaWFour
import Derived.Test.YtpnldhimlpilhaaWQPut
import Derived.Test.YtpnldhimlpilhaaWApart
import Derived.Test.YtpnldhimlpilhaaWArr
import Derived.Test.YtpnldhimlpilhaaWZeros
import Derived.Test.YtpnldhimlpilhaaWFoot
import Derived.Test.YtpnldhimlpilhaaWKept
import Derived.Test.YtpnldhimlpilhaaWShare
import Derived.Test.YtpnldhimlpilhaaWN
import Derived.Test.YtpnldhimlpilhaaWFootNe
import Derived.Test.YtpnldhimlpilhaaWAt
import Derived.Test.YtpnldhimlpilhaaWEqStruct
import Derived.Test.YtpnldhimlpilhaaWRepsOne
import Derived.Test.YtpnldhimlpilhaaWInv
import Derived.Test.YtpnldhimlpilhaaWInvWords
import Derived.Test.YtpnldhimlpilhaaWGuard
import Derived.Test.YtpnldhimlpilhaaWNEv
import Derived.Test.YtpnldhimlpilhaaWMore
namespace Go.Proofs.Ytpnldhimlpilhaa.F
open Go.RowKit Go.Proofs.YtpnldhimlpilhaaW.PrintWords Go.Proofs.YtpnldhimlpilhaaW.PrintLast Go.Proofs.YtpnldhimlpilhaaW.PrintMore Go.Proofs.YtpnldhimlpilhaaW
attribute [local go_sem] max2_int min2_int max_two min_two max_three min_three max_four min_four   -- for this text's walks alone
set_option linter.unusedVariables false
set_option linter.unusedSimpArgs false



def errW : Option Int → Value
  | none => .nilIface
  | some c => .iface 0 (.int .i64 c)
theorem errW_none : errW none = .nilIface := rfl
theorem errW_some (c : Int) : errW (some c) = .iface 0 (.int .i64 c) := rfl

theorem info3 : (Try.prog.info? 3).map (fun i => (i.zero, i.size, i.bytes)) = some (some (.int .i64 0), 1, 8) := by kernel_rfl
-- the values' own types

end Go.Proofs.Ytpnldhimlpilhaa.F
