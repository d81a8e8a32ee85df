/- P: texts run together by shake.py: PaI PaT. -/
import Derived.ArgAppend
import Derived.Below
import Derived.BigQuiet
import Derived.Deep.AppendLies
import Derived.Deep.CutBlock
import Derived.Deep.DeepCutAuto
import Derived.Deep.Draws
import Derived.Deep.LoopGhost
import Derived.Deep.OwnRows
import Derived.Deep.Quiet
import Derived.Deep.QuietTactic
import Derived.Deep.RegionHeld3
import Derived.KernelRfl
import Derived.Laws.AppendOwn
import Derived.Laws.AppendOwnNone
import Derived.Laws.BitsAllLaws
import Derived.Laws.BitsLemmas
import Derived.Laws.BytesArg
import Derived.Laws.Concat
import Derived.Laws.CopyRow
import Derived.Laws.IdiomCopy
import Derived.Laws.IdiomStrings
import Derived.Laws.MakeOwn
import Derived.Laws.OwnMore
import Derived.Laws.Rows
import Derived.Laws.Slices
import Derived.Laws.StructEq
import Derived.Laws.Tables
import Derived.Lib.AppendIntMem
import Derived.Lib.AppendStr
import Derived.Lib.AppendZeros
import Derived.Lib.Bytes
import Derived.Lib.ConvBytes
import Derived.Lib.Hide
import Derived.Lib.ItoaLen
import Derived.Lib.ItoaNum
import Derived.Lib.LaidTab
import Derived.Lib.OthersKept
import Derived.Lib.SliceRun
import Derived.Lib.TrimU
import Derived.LoopIn
import Derived.MapKept
import Derived.Maps.AppendAt
import Derived.Orders
import Derived.OrdersHeld
import Derived.OrdersIn
import Derived.OwnWalk
import Derived.RangeFuncCalls
import Derived.RangeFuncNested
import Derived.RangeFuncWrites
import Derived.RowKit
import Derived.RowKit3
import Derived.Shelf.Bytes.SlEqualAll
import Derived.Shelf.Bytes.SlSearch0
import Derived.Shelf.Bytes.SlSmallAll
import Derived.Shelf.Bytes.Small
import Derived.Shelf.LaysM
import Derived.Shelf.Slices.Empties2
import Derived.Shelf.Slices.Equal
import Derived.Shelf.Small.Strs
import Derived.Shelf.Small.Utf8
import Derived.Shelf.Strconv.Itoa0
import Derived.Shelf.Strconv.Itoa1
import Derived.Shelf.Strconv.Itoa2
import Derived.Shelf.Strconv.Itoa3
import Derived.Shelf.Strings.Builder1
import Derived.Shelf.Strings.Builder2
import Derived.Shelf.Strings.Builder2Cap
import Derived.Shelf.Strings.BuilderCap
import Derived.Shelf.Strings.BuilderF
import Derived.Shelf.Strings.BuilderK
import Derived.Shelf.Strings.OnBuilder
import Derived.Shelf.Strings.Runes
import Derived.Shelf.Strings.Search1
import Derived.Still
import Derived.Tactics
import Derived.TacticsIn
import Derived.Test.YtcglbfpmcpammaaDoorProg
import Derived.WalkKit
import Derived.WideLaws
import Derived.Test.YtcglbfpmcpammaaDoorZP1
import Derived.Test.YtcglbfpmcpammaaDoorZP2
import Derived.Test.YtcglbfpmcpammaaDoorZP3
import Derived.Test.YtcglbfpmcpammaaDoorZP4
import Derived.Test.YtcglbfpmcpammaaDoorZP5
import Derived.Test.YtcglbfpmcpammaaDoorZP6
import Derived.Test.YtcglbfpmcpammaaDoorZP7
import Derived.Test.YtcglbfpmcpammaaDoorZP8
import Derived.Test.YtcglbfpmcpammaaDoorZP9
import Derived.Test.YtcglbfpmcpammaaDoorZP10
import Derived.Test.YtcglbfpmcpammaaDoorZP11
import Derived.Test.YtcglbfpmcpammaaDoorZP13
section
namespace Go.Proofs.YtcglbfpmcpammaaDoor
set_option linter.unusedVariables false
set_option linter.unusedSimpArgs false
open Go.RowKit Kit G Go.Proofs.YtcglbfpmcpammaaDoorW.PrintWords
attribute [local go_sem] Oper.semAt_some
attribute [local irreducible] wpList Calls wpQuiet
theorem takeNo_calls (A : Option Addr) (c : Nat) (l : List UInt8) (hc : l.length ≤ c) (h5 : l.length ≤ 100000) (w : World) (hT : Tab w) (hr : Reads w A (l.map byV)) (hp : ¬ l.take 6 = openM) :
    Calls Tryd.prog 16 #[.slice A l.length c] w (TakeAns (takeV l) w) := (takeNoG_calls A c l hc h5 w hT hr hp).mono fun _ _ h => h.ans
end Go.Proofs.YtcglbfpmcpammaaDoor
end
section
namespace Go.Proofs.YtcglbfpmcpammaaDoor
set_option linter.unusedVariables false
set_option linter.unusedSimpArgs false
open Go.RowKit Kit G Go.Proofs.YtcglbfpmcpammaaDoorW.PrintWords Go.Proofs.YtcglbfpmcpammaaDoorW.PrintMore
theorem pasteTake_calls (A : Option Addr) (c : Nat) (l : List UInt8) (hc : l.length ≤ c) (h5 : l.length ≤ 100000) (w : World) (hT : Tab w) (hr : Reads w A (l.map byV)) : Calls Tryd.prog 16 #[.slice A l.length c] w (TakeAns (takeV l) w) := by
  by_cases hp : l.take 6 = openM
  · obtain ⟨b0, o0, h⟩ := slice_at hr
    rcases h with rfl | rfl
    · exact absurd hp (by decide)
    · exact takeYes_calls b0 o0 c l hc h5 w hT hr hp
  · exact takeNo_calls A c l hc h5 w hT hr hp
attribute [local irreducible] wpList Calls wpQuiet
end Go.Proofs.YtcglbfpmcpammaaDoor
end
