/- Words for the functions' proofs: the values' own types. No condition. -/
import Derived.Test.YtpkelaklajplnaaDoorProg
import Derived.Below
import Derived.Deep.Draws
import Derived.Deep.AppendLies
import Derived.Maps.AppendAt
import Derived.OwnWalk
import Derived.Laws.BytesArg
import Derived.Laws.MakeOwn
import Derived.Laws.OwnMore
import Derived.Deep.OwnRows
import Derived.Tactics
import Derived.Lib.ConvBytes
import Derived.Laws.Slices
import Derived.WalkKit
import Derived.KernelRfl
import Derived.RowKit3
import Derived.Deep.LoopGhost
import Derived.Deep.QuietTactic
import Derived.BigQuiet
import Derived.WideLaws
import Derived.Deep.DeepCutAuto
import Derived.Deep.CutBlock
import Derived.Deep.RegionHeld3
import Derived.Laws.Rows
import Derived.Lib.AppendStr
import Derived.ArgAppend
import Derived.Laws.IdiomCopy
import Derived.OrdersHeld
import Derived.Laws.BitsLemmas
import Derived.RowKit
import Derived.Test.YtpkelaklajplnaaDoorWWords
import Derived.Test.YtpkelaklajplnaaDoorWLast
import Derived.Test.YtpkelaklajplnaaDoorWTab
import Derived.Test.YtpkelaklajplnaaDoorWFour
import Derived.Test.YtpkelaklajplnaaDoorWQPut
import Derived.Test.YtpkelaklajplnaaDoorWApart
import Derived.Test.YtpkelaklajplnaaDoorWArr
import Derived.Test.YtpkelaklajplnaaDoorWZeros
import Derived.Test.YtpkelaklajplnaaDoorWFoot
import Derived.Test.YtpkelaklajplnaaDoorWKept
import Derived.Test.YtpkelaklajplnaaDoorWShare
import Derived.Test.YtpkelaklajplnaaDoorWN
import Derived.Test.YtpkelaklajplnaaDoorWFootNe
import Derived.Test.YtpkelaklajplnaaDoorWAt
import Derived.Test.YtpkelaklajplnaaDoorWEqStruct
import Derived.Test.YtpkelaklajplnaaDoorWRepsOne
import Derived.Test.YtpkelaklajplnaaDoorWInv
import Derived.Test.YtpkelaklajplnaaDoorWInvWords
import Derived.Test.YtpkelaklajplnaaDoorWGuard
import Derived.Test.YtpkelaklajplnaaDoorWNEv
import Derived.Test.YtpkelaklajplnaaDoorWMore
import Derived.Test.YtpkelaklajplnaaDoorNuW
import Derived.Test.YtpkelaklajplnaaDoorNuU
import Derived.Test.YtpkelaklajplnaaDoorKitG
import Derived.Test.YtpkelaklajplnaaDoorNuV
import Derived.Test.YtpkelaklajplnaaDoorNuC
import Derived.Test.YtpkelaklajplnaaDoorNuD
import Derived.Test.YtpkelaklajplnaaDoorNuA
import Derived.Test.YtpkelaklajplnaaDoorTab
namespace Go.Proofs.YtpkelaklajplnaaDoor.G
open Go.RowKit Go.Proofs.YtpkelaklajplnaaDoorW.PrintWords Go.Proofs.YtpkelaklajplnaaDoorW.PrintLast Go.Proofs.YtpkelaklajplnaaDoorW.PrintMore
attribute [local go_sem] max2_int min2_int max_two min_two max_three min_three max_four min_four
set_option linter.unusedVariables false
set_option linter.unusedSimpArgs false

def errW : Option Int → Value
  | none => .nilIface
  | some c => .iface 0 (.int .i64 c)
theorem errW_none : errW none = .nilIface := rfl
theorem errW_some (c : Int) : errW (some c) = .iface 0 (.int .i64 c) := rfl

theorem info5 : (Tryd.prog.info? 5).map (fun i => (i.zero, i.size, i.bytes)) = some (some (.int .u8 0), 1, 1) := by kernel_rfl

end Go.Proofs.YtpkelaklajplnaaDoor.G
