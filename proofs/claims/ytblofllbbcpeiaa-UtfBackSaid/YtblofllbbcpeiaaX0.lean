/- Printed by a program of this session (xprint) out of the kit's print, with functions proved by hand. -/
import Derived.Test.YtblofllbbcpeiaaProg
import Derived.Below
import Derived.Deep.Draws
import Derived.Deep.AppendLies
import Derived.Maps.AppendAt
import Derived.OwnWalk
import Derived.Laws.BytesArg
import Derived.Laws.MakeOwn
import Derived.Laws.OwnMore
import Derived.Deep.OwnRows
import Derived.Tactics
import Derived.Lib.ConvBytes
import Derived.Laws.Slices
import Derived.WalkKit
import Derived.KernelRfl
import Derived.RowKit3
import Derived.Deep.LoopGhost
import Derived.Deep.QuietTactic
import Derived.BigQuiet
import Derived.WideLaws
import Derived.Deep.DeepCutAuto
import Derived.Deep.CutBlock
import Derived.Deep.RegionHeld3
import Derived.Laws.Rows
import Derived.Lib.AppendStr
import Derived.ArgAppend
import Derived.Laws.IdiomCopy
import Derived.OrdersHeld
import Derived.Laws.BitsLemmas
import Derived.RowKit
import Derived.Test.YtblofllbbcpeiaaWWords
import Derived.Test.YtblofllbbcpeiaaWLast
import Derived.Test.YtblofllbbcpeiaaWTab
import Derived.Test.YtblofllbbcpeiaaWFour
import Derived.Test.YtblofllbbcpeiaaWQPut
import Derived.Test.YtblofllbbcpeiaaWApart
import Derived.Test.YtblofllbbcpeiaaWArr
import Derived.Test.YtblofllbbcpeiaaWZeros
import Derived.Test.YtblofllbbcpeiaaWFoot
import Derived.Test.YtblofllbbcpeiaaWKept
import Derived.Test.YtblofllbbcpeiaaWShare
import Derived.Test.YtblofllbbcpeiaaWN
import Derived.Test.YtblofllbbcpeiaaWFootNe
import Derived.Test.YtblofllbbcpeiaaWAt
import Derived.Test.YtblofllbbcpeiaaWEqStruct
import Derived.Test.YtblofllbbcpeiaaWRepsOne
import Derived.Test.YtblofllbbcpeiaaWInv
import Derived.Test.YtblofllbbcpeiaaWInvWords
import Derived.Test.YtblofllbbcpeiaaWGuard
import Derived.Test.YtblofllbbcpeiaaWNEv
import Derived.Test.YtblofllbbcpeiaaWMore
import Derived.Test.YtblofllbbcpeiaaConv
import Derived.Test.YtblofllbbcpeiaaUtfA
namespace Go.Proofs.Ytblofllbbcpeiaa.X
open Go.RowKit Go.Proofs.YtblofllbbcpeiaaW.PrintWords Go.Proofs.YtblofllbbcpeiaaW.PrintLast Go.Proofs.YtblofllbbcpeiaaW.PrintMore Go.Proofs.YtblofllbbcpeiaaW.XConv
attribute [local go_sem] max2_int min2_int max_two min_two max_three min_three max_four min_four   -- for this text's walks alone
set_option linter.unusedVariables false
set_option linter.unusedSimpArgs false



def errW : Option Int → Value
  | none => .nilIface
  | some c => .iface 0 (.int .i64 c)
theorem errW_none : errW none = .nilIface := rfl
theorem errW_some (c : Int) : errW (some c) = .iface 0 (.int .i64 c) := rfl

theorem info5 : (Try.prog.info? 5).map (fun i => (i.zero, i.size, i.bytes)) = some (some (.int .u8 0), 1, 1) := by kernel_rfl
theorem info21 : (Try.prog.info? 21).map (fun i => (i.zero, i.size, i.bytes)) = some (some (.int .i32 0), 1, 4) := by kernel_rfl
-- the values' own types

end Go.Proofs.Ytblofllbbcpeiaa.X
