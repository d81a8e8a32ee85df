/- P: texts run together by shake.py: PuU PaW. -/
import Derived.ArgAppend
import Derived.Below
import Derived.BigQuiet
import Derived.Deep.AppendLies
import Derived.Deep.CutBlock
import Derived.Deep.DeepCutAuto
import Derived.Deep.Draws
import Derived.Deep.LoopGhost
import Derived.Deep.OwnRows
import Derived.Deep.Quiet
import Derived.Deep.QuietTactic
import Derived.Deep.RegionHeld3
import Derived.KernelRfl
import Derived.Laws.AppendOwn
import Derived.Laws.AppendOwnNone
import Derived.Laws.BitsAllLaws
import Derived.Laws.BitsLemmas
import Derived.Laws.BytesArg
import Derived.Laws.Concat
import Derived.Laws.CopyRow
import Derived.Laws.IdiomCopy
import Derived.Laws.IdiomStrings
import Derived.Laws.MakeOwn
import Derived.Laws.OwnMore
import Derived.Laws.Rows
import Derived.Laws.Slices
import Derived.Laws.StructEq
import Derived.Laws.Tables
import Derived.Lib.AppendIntMem
import Derived.Lib.AppendStr
import Derived.Lib.AppendZeros
import Derived.Lib.Bytes
import Derived.Lib.ConvBytes
import Derived.Lib.Hide
import Derived.Lib.ItoaLen
import Derived.Lib.ItoaNum
import Derived.Lib.LaidTab
import Derived.Lib.OthersKept
import Derived.Lib.SliceRun
import Derived.Lib.TrimU
import Derived.LoopIn
import Derived.MapKept
import Derived.Maps.AppendAt
import Derived.Orders
import Derived.OrdersHeld
import Derived.OrdersIn
import Derived.OwnWalk
import Derived.RangeFuncCalls
import Derived.RangeFuncNested
import Derived.RangeFuncWrites
import Derived.RowKit
import Derived.RowKit3
import Derived.Shelf.Bytes.SlEqualAll
import Derived.Shelf.Bytes.SlSearch0
import Derived.Shelf.Bytes.SlSmallAll
import Derived.Shelf.Bytes.Small
import Derived.Shelf.LaysM
import Derived.Shelf.Slices.Empties2
import Derived.Shelf.Slices.Equal
import Derived.Shelf.Small.Strs
import Derived.Shelf.Small.Utf8
import Derived.Shelf.Strconv.Itoa0
import Derived.Shelf.Strconv.Itoa1
import Derived.Shelf.Strconv.Itoa2
import Derived.Shelf.Strconv.Itoa3
import Derived.Shelf.Strings.Builder1
import Derived.Shelf.Strings.Builder2
import Derived.Shelf.Strings.Builder2Cap
import Derived.Shelf.Strings.BuilderCap
import Derived.Shelf.Strings.BuilderF
import Derived.Shelf.Strings.BuilderK
import Derived.Shelf.Strings.OnBuilder
import Derived.Shelf.Strings.Runes
import Derived.Shelf.Strings.Search1
import Derived.Still
import Derived.Tactics
import Derived.TacticsIn
import Derived.Test.YtcglbfpmcpammaaDoorProg
import Derived.WalkKit
import Derived.WideLaws
import Derived.Test.YtcglbfpmcpammaaDoorZP1
import Derived.Test.YtcglbfpmcpammaaDoorZP2
import Derived.Test.YtcglbfpmcpammaaDoorZP3
import Derived.Test.YtcglbfpmcpammaaDoorZP4
import Derived.Test.YtcglbfpmcpammaaDoorZP5
import Derived.Test.YtcglbfpmcpammaaDoorZP6
import Derived.Test.YtcglbfpmcpammaaDoorZP7
import Derived.Test.YtcglbfpmcpammaaDoorZP8
import Derived.Test.YtcglbfpmcpammaaDoorZP9
import Derived.Test.YtcglbfpmcpammaaDoorZP10
import Derived.Test.YtcglbfpmcpammaaDoorZP11
import Derived.Test.YtcglbfpmcpammaaDoorZP12
import Derived.Test.YtcglbfpmcpammaaDoorZP13
section
namespace Go.Proofs.YtcglbfpmcpammaaDoor
set_option linter.unusedVariables false
set_option linter.unusedSimpArgs false
theorem Cl.span {l : List UInt8} (h : Cl l) (more : List UInt8) : spanU (l ++ 27 :: more) = l.length := by
  induction h with
  | nil =>
    rw [List.nil_append, spanU_cons (by simp)]
    have ht : takeU ([27] ++ more) = (27, 1) := takeU_app more (x := [27]) (by decide) (by decide)
    rw [List.singleton_append] at ht
    rw [ht]
    rfl
  | @cons x y r h0 ht hr _ ih =>
    rw [List.append_assoc, spanU_cons (by simp), takeU_app _ ht h0]
    simp only [decide_eq_true h0, hr, Bool.and_self, if_true, List.drop_left, ih, List.length_append]
theorem takeP_sent (p more : List UInt8) : takeP (sentP p ++ more) = some (cleanL p, (sentP p).length) := by
  have h1 : sentP p ++ more = openM ++ (cleanL p ++ (shutM ++ more)) := by simp [sentP]
  have h2 : (sentP p ++ more).take 6 = openM := by rw [h1]; rfl
  have h3 : (sentP p ++ more).drop 6 = cleanL p ++ (27 :: ([91, 50, 48, 49, 126] ++ more)) := by rw [h1]; rfl
  have h4 := (cl_clean p).span ([91, 50, 48, 49, 126] ++ more)
  unfold takeP
  rw [if_pos h2, h3, h4, List.drop_left, List.take_left, if_pos (by rfl)]
  congr 2
  simp [sentP, openM, shutM]
end Go.Proofs.YtcglbfpmcpammaaDoor
end
section
namespace Go.Proofs.YtcglbfpmcpammaaDoor
set_option linter.unusedVariables false
set_option linter.unusedSimpArgs false
open Go.RowKit Kit G Go.Proofs.YtcglbfpmcpammaaDoorW.PrintWords Go.Proofs.YtcglbfpmcpammaaDoorW.PrintMore
theorem takeV_sent (p more : List UInt8) : takeV (sentP p ++ more) = (cleanL p, (sentP p).length, true) := by
  unfold takeV
  rw [takeP_sent]
theorem sent_len (p : List UInt8) : (sentP p).length = (cleanL p).length + 12 := by
  unfold sentP
  simp [openM, shutM]
attribute [local irreducible] wpList Calls wpQuiet
end Go.Proofs.YtcglbfpmcpammaaDoor
end
