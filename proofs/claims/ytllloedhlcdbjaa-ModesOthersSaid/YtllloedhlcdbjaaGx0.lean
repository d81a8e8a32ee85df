/- Words for the functions' proofs: the values' own types. No condition. -/
import Derived.Test.YtllloedhlcdbjaaProg
import Derived.Below
import Derived.Deep.Draws
import Derived.Deep.AppendLies
import Derived.Maps.AppendAt
import Derived.OwnWalk
import Derived.Laws.BytesArg
import Derived.Laws.MakeOwn
import Derived.Laws.OwnMore
import Derived.Deep.OwnRows
import Derived.Tactics
import Derived.Lib.ConvBytes
import Derived.Laws.Slices
import Derived.WalkKit
import Derived.KernelRfl
import Derived.RowKit3
import Derived.Deep.LoopGhost
import Derived.Deep.QuietTactic
import Derived.BigQuiet
import Derived.WideLaws
import Derived.Deep.DeepCutAuto
import Derived.Deep.CutBlock
import Derived.Deep.RegionHeld3
import Derived.Laws.Rows
import Derived.Lib.AppendStr
import Derived.ArgAppend
import Derived.Laws.IdiomCopy
import Derived.OrdersHeld
import Derived.Laws.BitsLemmas
import Derived.RowKit
import Derived.Test.YtllloedhlcdbjaaWWords
import Derived.Test.YtllloedhlcdbjaaWLast
import Derived.Test.YtllloedhlcdbjaaWTab
import Derived.Test.YtllloedhlcdbjaaWFour
import Derived.Test.YtllloedhlcdbjaaWQPut
import Derived.Test.YtllloedhlcdbjaaWApart
import Derived.Test.YtllloedhlcdbjaaWArr
import Derived.Test.YtllloedhlcdbjaaWZeros
import Derived.Test.YtllloedhlcdbjaaWFoot
import Derived.Test.YtllloedhlcdbjaaWKept
import Derived.Test.YtllloedhlcdbjaaWShare
import Derived.Test.YtllloedhlcdbjaaWN
import Derived.Test.YtllloedhlcdbjaaWFootNe
import Derived.Test.YtllloedhlcdbjaaWAt
import Derived.Test.YtllloedhlcdbjaaWEqStruct
import Derived.Test.YtllloedhlcdbjaaWRepsOne
import Derived.Test.YtllloedhlcdbjaaWInv
import Derived.Test.YtllloedhlcdbjaaWInvWords
import Derived.Test.YtllloedhlcdbjaaWGuard
import Derived.Test.YtllloedhlcdbjaaWNEv
import Derived.Test.YtllloedhlcdbjaaWMore
import Derived.Test.YtllloedhlcdbjaaMoE
namespace Go.Proofs.Ytllloedhlcdbjaa.G
open Go.RowKit Go.Proofs.YtllloedhlcdbjaaW.PrintWords Go.Proofs.YtllloedhlcdbjaaW.PrintLast Go.Proofs.YtllloedhlcdbjaaW.PrintMore
attribute [local go_sem] max2_int min2_int max_two min_two max_three min_three max_four min_four
set_option linter.unusedVariables false
set_option linter.unusedSimpArgs false

def errW : Option Int → Value
  | none => .nilIface
  | some c => .iface 0 (.int .i64 c)
theorem errW_none : errW none = .nilIface := rfl
theorem errW_some (c : Int) : errW (some c) = .iface 0 (.int .i64 c) := rfl

theorem info3 : (Try.prog.info? 3).map (fun i => (i.zero, i.size, i.bytes)) = some (some (.int .i64 0), 1, 8) := by kernel_rfl

end Go.Proofs.Ytllloedhlcdbjaa.G
