/- P: texts run together by shake.py: PaJ PaI. -/
import Derived.ArgAppend
import Derived.Below
import Derived.BigQuiet
import Derived.Deep.AppendLies
import Derived.Deep.CutBlock
import Derived.Deep.DeepCutAuto
import Derived.Deep.Draws
import Derived.Deep.LoopGhost
import Derived.Deep.OwnRows
import Derived.Deep.Quiet
import Derived.Deep.QuietTactic
import Derived.Deep.RegionHeld3
import Derived.KernelRfl
import Derived.Laws.AppendOwn
import Derived.Laws.AppendOwnNone
import Derived.Laws.BitsAllLaws
import Derived.Laws.BitsLemmas
import Derived.Laws.BytesArg
import Derived.Laws.Concat
import Derived.Laws.CopyRow
import Derived.Laws.IdiomCopy
import Derived.Laws.IdiomStrings
import Derived.Laws.MakeOwn
import Derived.Laws.OwnMore
import Derived.Laws.Rows
import Derived.Laws.Slices
import Derived.Laws.StructEq
import Derived.Laws.Tables
import Derived.Lib.AppendIntMem
import Derived.Lib.AppendStr
import Derived.Lib.AppendZeros
import Derived.Lib.Bytes
import Derived.Lib.ConvBytes
import Derived.Lib.Hide
import Derived.Lib.ItoaLen
import Derived.Lib.ItoaNum
import Derived.Lib.LaidTab
import Derived.Lib.OthersKept
import Derived.Lib.SliceRun
import Derived.Lib.TrimU
import Derived.LoopIn
import Derived.MapKept
import Derived.Maps.AppendAt
import Derived.Orders
import Derived.OrdersHeld
import Derived.OrdersIn
import Derived.OwnWalk
import Derived.RangeFuncCalls
import Derived.RangeFuncNested
import Derived.RangeFuncWrites
import Derived.RowKit
import Derived.RowKit3
import Derived.Shelf.Bytes.SlEqualAll
import Derived.Shelf.Bytes.SlSearch0
import Derived.Shelf.Bytes.SlSmallAll
import Derived.Shelf.Bytes.Small
import Derived.Shelf.LaysM
import Derived.Shelf.Slices.Empties2
import Derived.Shelf.Slices.Equal
import Derived.Shelf.Small.Strs
import Derived.Shelf.Small.Utf8
import Derived.Shelf.Strconv.Itoa0
import Derived.Shelf.Strconv.Itoa1
import Derived.Shelf.Strconv.Itoa2
import Derived.Shelf.Strconv.Itoa3
import Derived.Shelf.Strings.Builder1
import Derived.Shelf.Strings.Builder2
import Derived.Shelf.Strings.Builder2Cap
import Derived.Shelf.Strings.BuilderCap
import Derived.Shelf.Strings.BuilderF
import Derived.Shelf.Strings.BuilderK
import Derived.Shelf.Strings.OnBuilder
import Derived.Shelf.Strings.Runes
import Derived.Shelf.Strings.Search1
import Derived.Still
import Derived.Tactics
import Derived.TacticsIn
import Derived.Test.YtcglbfpmcpammaaDoorProg
import Derived.WalkKit
import Derived.WideLaws
import Derived.Test.YtcglbfpmcpammaaDoorZP1
import Derived.Test.YtcglbfpmcpammaaDoorZP2
import Derived.Test.YtcglbfpmcpammaaDoorZP3
import Derived.Test.YtcglbfpmcpammaaDoorZP4
import Derived.Test.YtcglbfpmcpammaaDoorZP5
import Derived.Test.YtcglbfpmcpammaaDoorZP6
import Derived.Test.YtcglbfpmcpammaaDoorZP7
import Derived.Test.YtcglbfpmcpammaaDoorZP8
import Derived.Test.YtcglbfpmcpammaaDoorZP9
import Derived.Test.YtcglbfpmcpammaaDoorZP10
import Derived.Test.YtcglbfpmcpammaaDoorZP14
section
namespace Go.Proofs.YtcglbfpmcpammaaDoor
set_option linter.unusedVariables false
set_option linter.unusedSimpArgs false
open Go.RowKit Kit G Go.Proofs.YtcglbfpmcpammaaDoorW.PrintWords Go.Proofs.YtcglbfpmcpammaaDoorW.PrintMore
attribute [local irreducible] wpList Calls wpQuiet
set_option maxHeartbeats 4000000 in
theorem refClean1_calls (r : Nat) (w : World) : Calls Tryd.prog 23 #[.int .i64 (r : Int)] w fun e w' => e = .returned (.bool (cleanR r)) ∧ Below w.heap.size w w' := by
  have HO := Mine.start w
  have hp : (r = 9) ∨ (r = 10) ∨ (r = 13) ∨ (r < 32 ∧ r ≠ 9 ∧ r ≠ 10 ∧ r ≠ 13) ∨ (32 ≤ r ∧ r < 127) ∨ (127 ≤ r ∧ r ≤ 159) ∨ (159 < r) := by omega
  rcases hp with h | h | h | h | h | h | h
  · have HV : Hid (cleanR r = true) := Lib.hid (by unfold cleanR; simp; omega)
    have e9 : ((r : Int) == 9) = true := by rw [h]; rfl
    have e10 : ((r : Int) == 10) = false := by exact beq_eq_false_iff_ne.2 (by omega)
    have e13 : ((r : Int) == 13) = false := by exact beq_eq_false_iff_ne.2 (by omega)
    have g32 : decide ((32 : Int) ≤ (r : Int)) = false := decide_eq_false (by omega)
    have g127 : decide ((r : Int) < 127) = true := decide_eq_true (by omega)
    have g159 : decide ((159 : Int) < (r : Int)) = false := decide_eq_false (by omega)
    clear h
    go_enter Tryd.func23, Tryd.ntmps23
    go_wp2
    go_ret
    exact ⟨by rw [HV.out]; first | rfl | (simp; done) | (simp [*]; done), HO.below⟩
  · have HV : Hid (cleanR r = true) := Lib.hid (by unfold cleanR; simp; omega)
    have e9 : ((r : Int) == 9) = false := by exact beq_eq_false_iff_ne.2 (by omega)
    have e10 : ((r : Int) == 10) = true := by rw [h]; rfl
    have e13 : ((r : Int) == 13) = false := by exact beq_eq_false_iff_ne.2 (by omega)
    have g32 : decide ((32 : Int) ≤ (r : Int)) = false := decide_eq_false (by omega)
    have g127 : decide ((r : Int) < 127) = true := decide_eq_true (by omega)
    have g159 : decide ((159 : Int) < (r : Int)) = false := decide_eq_false (by omega)
    clear h
    go_enter Tryd.func23, Tryd.ntmps23
    go_wp2
    go_ret
    exact ⟨by rw [HV.out]; first | rfl | (simp; done) | (simp [*]; done), HO.below⟩
  · have HV : Hid (cleanR r = true) := Lib.hid (by unfold cleanR; simp; omega)
    have e9 : ((r : Int) == 9) = false := by exact beq_eq_false_iff_ne.2 (by omega)
    have e10 : ((r : Int) == 10) = false := by exact beq_eq_false_iff_ne.2 (by omega)
    have e13 : ((r : Int) == 13) = true := by rw [h]; rfl
    have g32 : decide ((32 : Int) ≤ (r : Int)) = false := decide_eq_false (by omega)
    have g127 : decide ((r : Int) < 127) = true := decide_eq_true (by omega)
    have g159 : decide ((159 : Int) < (r : Int)) = false := decide_eq_false (by omega)
    clear h
    go_enter Tryd.func23, Tryd.ntmps23
    go_wp2
    go_ret
    exact ⟨by rw [HV.out]; first | rfl | (simp; done) | (simp [*]; done), HO.below⟩
  · have HV : Hid (cleanR r = false) := Lib.hid (by unfold cleanR; simp; omega)
    have e9 : ((r : Int) == 9) = false := by exact beq_eq_false_iff_ne.2 (by omega)
    have e10 : ((r : Int) == 10) = false := by exact beq_eq_false_iff_ne.2 (by omega)
    have e13 : ((r : Int) == 13) = false := by exact beq_eq_false_iff_ne.2 (by omega)
    have g32 : decide ((32 : Int) ≤ (r : Int)) = false := decide_eq_false (by omega)
    have g127 : decide ((r : Int) < 127) = true := decide_eq_true (by omega)
    have g159 : decide ((159 : Int) < (r : Int)) = false := decide_eq_false (by omega)
    clear h
    go_enter Tryd.func23, Tryd.ntmps23
    go_wp2
    go_ret
    exact ⟨by rw [HV.out]; first | rfl | (simp; done) | (simp [*]; done), HO.below⟩
  · have HV : Hid (cleanR r = true) := Lib.hid (by unfold cleanR; simp; omega)
    have e9 : ((r : Int) == 9) = false := by exact beq_eq_false_iff_ne.2 (by omega)
    have e10 : ((r : Int) == 10) = false := by exact beq_eq_false_iff_ne.2 (by omega)
    have e13 : ((r : Int) == 13) = false := by exact beq_eq_false_iff_ne.2 (by omega)
    have g32 : decide ((32 : Int) ≤ (r : Int)) = true := decide_eq_true (by omega)
    have g127 : decide ((r : Int) < 127) = true := decide_eq_true (by omega)
    have g159 : decide ((159 : Int) < (r : Int)) = false := decide_eq_false (by omega)
    clear h
    go_enter Tryd.func23, Tryd.ntmps23
    go_wp2
    go_ret
    exact ⟨by rw [HV.out]; first | rfl | (simp; done) | (simp [*]; done), HO.below⟩
  · have HV : Hid (cleanR r = false) := Lib.hid (by unfold cleanR; simp; omega)
    have e9 : ((r : Int) == 9) = false := by exact beq_eq_false_iff_ne.2 (by omega)
    have e10 : ((r : Int) == 10) = false := by exact beq_eq_false_iff_ne.2 (by omega)
    have e13 : ((r : Int) == 13) = false := by exact beq_eq_false_iff_ne.2 (by omega)
    have g32 : decide ((32 : Int) ≤ (r : Int)) = true := decide_eq_true (by omega)
    have g127 : decide ((r : Int) < 127) = false := decide_eq_false (by omega)
    have g159 : decide ((159 : Int) < (r : Int)) = false := decide_eq_false (by omega)
    clear h
    go_enter Tryd.func23, Tryd.ntmps23
    go_wp2
    go_ret
    exact ⟨by rw [HV.out]; first | rfl | (simp; done) | (simp [*]; done), HO.below⟩
  · have HV : Hid (cleanR r = true) := Lib.hid (by unfold cleanR; simp; omega)
    have e9 : ((r : Int) == 9) = false := by exact beq_eq_false_iff_ne.2 (by omega)
    have e10 : ((r : Int) == 10) = false := by exact beq_eq_false_iff_ne.2 (by omega)
    have e13 : ((r : Int) == 13) = false := by exact beq_eq_false_iff_ne.2 (by omega)
    have g32 : decide ((32 : Int) ≤ (r : Int)) = true := decide_eq_true (by omega)
    have g127 : decide ((r : Int) < 127) = false := decide_eq_false (by omega)
    have g159 : decide ((159 : Int) < (r : Int)) = true := decide_eq_true (by omega)
    clear h
    go_enter Tryd.func23, Tryd.ntmps23
    go_wp2
    go_ret
    exact ⟨by rw [HV.out]; first | rfl | (simp; done) | (simp [*]; done), HO.below⟩
end Go.Proofs.YtcglbfpmcpammaaDoor
end
section
namespace Go.Proofs.YtcglbfpmcpammaaDoor
set_option linter.unusedVariables false
set_option linter.unusedSimpArgs false
open Go.RowKit Kit G Go.Proofs.YtcglbfpmcpammaaDoorW.PrintWords
attribute [local go_sem] Oper.semAt_some
theorem fRc_nil (w : World) : fRc [] (.slice none 0 0) w := ⟨none, 0, rfl, Nat.le_refl _, Reads.nil _ _⟩
attribute [local irreducible] wpList Calls wpQuiet
end Go.Proofs.YtcglbfpmcpammaaDoor
end
