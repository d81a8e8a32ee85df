/- P: texts run together by shake.py: PaC PaI. -/
import Derived.ArgAppend
import Derived.Below
import Derived.BigQuiet
import Derived.Deep.AppendLies
import Derived.Deep.CutBlock
import Derived.Deep.DeepCutAuto
import Derived.Deep.Draws
import Derived.Deep.LoopGhost
import Derived.Deep.OwnRows
import Derived.Deep.Quiet
import Derived.Deep.QuietTactic
import Derived.Deep.RegionHeld3
import Derived.KernelRfl
import Derived.Laws.AppendOwn
import Derived.Laws.AppendOwnNone
import Derived.Laws.BitsAllLaws
import Derived.Laws.BitsLemmas
import Derived.Laws.BytesArg
import Derived.Laws.Concat
import Derived.Laws.CopyRow
import Derived.Laws.IdiomCopy
import Derived.Laws.IdiomStrings
import Derived.Laws.MakeOwn
import Derived.Laws.OwnMore
import Derived.Laws.Rows
import Derived.Laws.Slices
import Derived.Laws.StructEq
import Derived.Laws.Tables
import Derived.Lib.AppendIntMem
import Derived.Lib.AppendStr
import Derived.Lib.AppendZeros
import Derived.Lib.Bytes
import Derived.Lib.ConvBytes
import Derived.Lib.Hide
import Derived.Lib.ItoaLen
import Derived.Lib.ItoaNum
import Derived.Lib.LaidTab
import Derived.Lib.OthersKept
import Derived.Lib.SliceRun
import Derived.Lib.TrimU
import Derived.LoopIn
import Derived.MapKept
import Derived.Maps.AppendAt
import Derived.Orders
import Derived.OrdersHeld
import Derived.OrdersIn
import Derived.OwnWalk
import Derived.RangeFuncCalls
import Derived.RangeFuncNested
import Derived.RangeFuncWrites
import Derived.RowKit
import Derived.RowKit3
import Derived.Shelf.Bytes.SlEqualAll
import Derived.Shelf.Bytes.SlSearch0
import Derived.Shelf.Bytes.SlSmallAll
import Derived.Shelf.Bytes.Small
import Derived.Shelf.LaysM
import Derived.Shelf.Slices.Empties2
import Derived.Shelf.Slices.Equal
import Derived.Shelf.Small.Strs
import Derived.Shelf.Small.Utf8
import Derived.Shelf.Strconv.Itoa0
import Derived.Shelf.Strconv.Itoa1
import Derived.Shelf.Strconv.Itoa2
import Derived.Shelf.Strconv.Itoa3
import Derived.Shelf.Strings.Builder1
import Derived.Shelf.Strings.Builder2
import Derived.Shelf.Strings.Builder2Cap
import Derived.Shelf.Strings.BuilderCap
import Derived.Shelf.Strings.BuilderF
import Derived.Shelf.Strings.BuilderK
import Derived.Shelf.Strings.OnBuilder
import Derived.Shelf.Strings.Runes
import Derived.Shelf.Strings.Search1
import Derived.Still
import Derived.Tactics
import Derived.TacticsIn
import Derived.Test.YtcglbfpmcpammaaDoorProg
import Derived.WalkKit
import Derived.WideLaws
import Derived.Test.YtcglbfpmcpammaaDoorZP1
import Derived.Test.YtcglbfpmcpammaaDoorZP2
import Derived.Test.YtcglbfpmcpammaaDoorZP3
import Derived.Test.YtcglbfpmcpammaaDoorZP4
import Derived.Test.YtcglbfpmcpammaaDoorZP5
import Derived.Test.YtcglbfpmcpammaaDoorZP6
import Derived.Test.YtcglbfpmcpammaaDoorZP7
import Derived.Test.YtcglbfpmcpammaaDoorZP8
import Derived.Test.YtcglbfpmcpammaaDoorZP9
import Derived.Test.YtcglbfpmcpammaaDoorZP10
section
namespace Go.Proofs.YtcglbfpmcpammaaDoor
set_option linter.unusedVariables false
set_option linter.unusedSimpArgs false
open Go.RowKit Kit G Go.Proofs.YtcglbfpmcpammaaDoorW.PrintWords
attribute [local irreducible] wpList Calls wpQuiet
theorem cutNo_calls (A B : Option Addr) (a b : List UInt8) (ca cb : Nat) (hca : a.length ≤ ca) (hcb : b.length ≤ cb) (hma : a.length ≤ 4611686018427387904) (hmb : b.length ≤ 4611686018427387904) (w : World) (ha : Reads w A (a.map byV)) (hb : Reads w B (b.map byV)) (hy : ¬ a.take b.length = b) :
    Calls Tryd.prog 27 #[.slice A a.length ca, .slice B b.length cb] w fun e w' => e = .returned (.tuple #[.slice A a.length ca, .bool false]) ∧ Below w.heap.size w w' := by
  have HO := Mine.start w
  have hp := fun W (hW : Below w.heap.size w W) => hasPrefix_calls A B a b ca cb hca W (ha.below hW) (hb.below hW)
  rw [decide_eq_false hy] at hp
  have HP := Lib.hid hp
  clear hy hp ha hb hca hcb hma hmb
  go_enter Tryd.func27, Tryd.ntmps27
  go_wp2_with (go_at_call 28; refine (HP.out _ HO.below).mono ?_; rintro eN wN ⟨rfl, hbN⟩; have HON := HO.call hbN; clear HO hbN; have HO := HON; clear HON)
  refine bodyPost_ret (results_tmp2 rfl _ _ _) rfl ?_
  exact ⟨rfl, HO.below⟩
end Go.Proofs.YtcglbfpmcpammaaDoor
end
section
namespace Go.Proofs.YtcglbfpmcpammaaDoor
set_option linter.unusedVariables false
set_option linter.unusedSimpArgs false
open Go.RowKit Kit G Go.Proofs.YtcglbfpmcpammaaDoorW.PrintWords
attribute [local go_sem] Oper.semAt_some
theorem takeV_no {l : List UInt8} (h : ¬ l.take 6 = openM) : takeV l = ([], 0, false) := by
  unfold takeV takeP
  rw [if_neg h]
attribute [local irreducible] wpList Calls wpQuiet
set_option maxRecDepth 100000 in
set_option maxHeartbeats 4000000 in
theorem takeNoG_calls (A : Option Addr) (c : Nat) (l : List UInt8) (hc : l.length ≤ c) (h5 : l.length ≤ 100000) (w : World) (hT : Tab w) (hr : Reads w A (l.map byV)) (hp : ¬ l.take 6 = openM) :
    Calls Tryd.prog 16 #[.slice A l.length c] w (TakeAnsG (takeV l) w) := by
  refine (callsIn_wide (n := 5)).1 ?_
  have HO := Mine.start w
  have HMK := Lib.hid fun W (hW : Below w.heap.size w W) => open_calls W (Tab.below hT hW)
  have HR := Lib.hid hr
  have HCC := Lib.hid (show l.length ≤ c ∧ l.length ≤ 4611686018427387904 from ⟨hc, by omega⟩)
  have HPX : Hid (¬ l.take openM.length = openM) := Lib.hid hp
  rw [takeV_no hp]
  clear hr hc h5 hp hT
  refine callsIn_of_wp_marks Tryd.func16 rfl trivial ?_ rfl
  simp only [Tryd.ntmps16, List.size_toArray, List.length_cons, List.length_nil, Nat.reduceAdd, Nat.reduceSub, Array.replicate_succ, Array.replicate_zero, List.push_toArray, List.append_toArray, List.nil_append, List.cons_append]
  refine wpIn_seq ?_
  refine wideRegion ?_
  go_wp2
  refine wpIn_seq ?_
  refine wideRegion ?_
  go_wp2_with (first
      | (go_at_call 25; refine (HMK.out _ HO.below).mono ?_; clear HMK; rintro eN wN ⟨v, rfl, hbN, pA, cA, rfl, hcA, hrA⟩; have HRA := Lib.hid hrA; have HCA := Lib.hid hcA; clear hrA hcA; have HON := HO.call hbN; clear HO hbN; have HO := HON; clear HON)
      | (go_at_call 27; refine (cutNo_calls A pA l openM c cA HCC.out.1 HCA.out HCC.out.2 (by decide) _ (HR.out.below HO.below) HRA.out HPX.out).mono ?_; rintro eN wN ⟨rfl, hbN⟩; have HON := HO.call hbN; clear HO hbN; have HO := HON; clear HON))
  refine wpIn_seq ?_
  refine wpIn_seq ?_
  refine wideRegion ?_
  go_wp2
  refine wpIn_cond_true rfl ?_
  refine wpIn_seq ?_
  refine wideRegion ?_
  go_wp2
  refine wpIn_ret ?_
  exact ⟨_, results_tmp3 Tryd.results16 _ _ _, nil_takeG rfl HO.below⟩
end Go.Proofs.YtcglbfpmcpammaaDoor
end
