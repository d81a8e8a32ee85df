/- P: texts run together by shake.py: PaN. -/
import Derived.ArgAppend
import Derived.Below
import Derived.BigQuiet
import Derived.Deep.AppendLies
import Derived.Deep.CutBlock
import Derived.Deep.DeepCutAuto
import Derived.Deep.Draws
import Derived.Deep.LoopGhost
import Derived.Deep.OwnRows
import Derived.Deep.Quiet
import Derived.Deep.QuietTactic
import Derived.Deep.RegionHeld3
import Derived.KernelRfl
import Derived.Laws.AppendOwn
import Derived.Laws.AppendOwnNone
import Derived.Laws.BitsAllLaws
import Derived.Laws.BitsLemmas
import Derived.Laws.BytesArg
import Derived.Laws.Concat
import Derived.Laws.CopyRow
import Derived.Laws.IdiomCopy
import Derived.Laws.IdiomStrings
import Derived.Laws.MakeOwn
import Derived.Laws.OwnMore
import Derived.Laws.Rows
import Derived.Laws.Slices
import Derived.Laws.StructEq
import Derived.Laws.Tables
import Derived.Lib.AppendIntMem
import Derived.Lib.AppendStr
import Derived.Lib.AppendZeros
import Derived.Lib.Bytes
import Derived.Lib.ConvBytes
import Derived.Lib.Hide
import Derived.Lib.ItoaLen
import Derived.Lib.ItoaNum
import Derived.Lib.LaidTab
import Derived.Lib.OthersKept
import Derived.Lib.SliceRun
import Derived.Lib.TrimU
import Derived.LoopIn
import Derived.MapKept
import Derived.Maps.AppendAt
import Derived.Orders
import Derived.OrdersHeld
import Derived.OrdersIn
import Derived.OwnWalk
import Derived.RangeFuncCalls
import Derived.RangeFuncNested
import Derived.RangeFuncWrites
import Derived.RowKit
import Derived.RowKit3
import Derived.Shelf.Bytes.SlEqualAll
import Derived.Shelf.Bytes.SlSearch0
import Derived.Shelf.Bytes.SlSmallAll
import Derived.Shelf.Bytes.Small
import Derived.Shelf.LaysM
import Derived.Shelf.Slices.Empties2
import Derived.Shelf.Slices.Equal
import Derived.Shelf.Small.Strs
import Derived.Shelf.Small.Utf8
import Derived.Shelf.Strconv.Itoa0
import Derived.Shelf.Strconv.Itoa1
import Derived.Shelf.Strconv.Itoa2
import Derived.Shelf.Strconv.Itoa3
import Derived.Shelf.Strings.Builder1
import Derived.Shelf.Strings.Builder2
import Derived.Shelf.Strings.Builder2Cap
import Derived.Shelf.Strings.BuilderCap
import Derived.Shelf.Strings.BuilderF
import Derived.Shelf.Strings.BuilderK
import Derived.Shelf.Strings.OnBuilder
import Derived.Shelf.Strings.Runes
import Derived.Shelf.Strings.Search1
import Derived.Still
import Derived.Tactics
import Derived.TacticsIn
import Derived.Test.YtcglbfpmcpammaaDoorProg
import Derived.WalkKit
import Derived.WideLaws
import Derived.Test.YtcglbfpmcpammaaDoorZP1
import Derived.Test.YtcglbfpmcpammaaDoorZP2
import Derived.Test.YtcglbfpmcpammaaDoorZP3
import Derived.Test.YtcglbfpmcpammaaDoorZP4
import Derived.Test.YtcglbfpmcpammaaDoorZP5
import Derived.Test.YtcglbfpmcpammaaDoorZP6
import Derived.Test.YtcglbfpmcpammaaDoorZP7
import Derived.Test.YtcglbfpmcpammaaDoorZP8
import Derived.Test.YtcglbfpmcpammaaDoorZP9
import Derived.Test.YtcglbfpmcpammaaDoorZP10
section
namespace Go.Proofs.YtcglbfpmcpammaaDoor
set_option linter.unusedVariables false
set_option linter.unusedSimpArgs false
open Go.RowKit Kit G Go.Proofs.YtcglbfpmcpammaaDoorW.PrintWords Go.Proofs.YtcglbfpmcpammaaDoorW.PrintMore
attribute [local irreducible] wpList Calls wpQuiet
set_option maxRecDepth 100000 in
set_option maxHeartbeats 8000000 in
theorem awake17_calls (w : World) (hT : Tab w) : Calls Tryd.prog 9 #[] w fun e w' => e = .returned (.bool true) ∧ Below w.heap.size w w' := by
  have HO := Mine.start w
  have HT := Lib.hid fun W (hW : Below w.heap.size w W) => Tab.below hT hW
  clear hT
  go_enter Tryd.func9, Tryd.ntmps9
  go_wp2_with (first
    | (go_at_call 12; refine (pasteSend_calls false false false false true false false 0 0 0 (some ⟨gE, 0, none⟩) 3 [97, 27, 98] (by decide) (by decide) _ (HT.out _ HO.below) (HO.row (.head _)).reads).mono ?_; rintro eN wN ⟨v, RS, rfl, hR, HM⟩; obtain ⟨pS, cS, hv, hcS, hrS⟩ := fRc_of hR HM; subst hv; have HRS := Lib.hid hrS; clear hrS hR hcS; have HON := (HO.call HM.below).less (List.nil_sublist _); clear HO HM; have HO := HON; clear HON)
    | (go_at_call 16; refine (takeYes_calls gE 0 15 [27, 91, 50, 48, 48, 126, 97, 98, 27, 91, 50, 48, 49, 126, 120] (by decide) (by decide) _ (HT.out _ HO.below) (HO.row (.head _)).reads (by decide)).mono ?_; unfold TakeAns; rintro eN wN ⟨⟨v, rfl, pT, cT, rfl, hcT, hrT⟩, hbN⟩; have HRT := Lib.hid hrT; clear hrT hcT; (try (have HRS2 := Lib.hid (HRS.out.below hbN); clear HRS; have HRS := HRS2; clear HRS2)); have HON := (HO.call hbN).less (List.nil_sublist _); clear HO hbN; have HO := HON; clear HON)
    | (go_at_call 18; refine (looked_calls (some ⟨gE, 0, none⟩) 4 [27, 91, 73, 120] (by decide) _ (HT.out _ HO.below) (HO.row (.head _)).reads).mono ?_; rintro eN wN ⟨rfl, hbN⟩; (try (have HRT2 := Lib.hid (HRT.out.below hbN); clear HRT; have HRT := HRT2; clear HRT2)); (try (have HRS2 := Lib.hid (HRS.out.below hbN); clear HRS; have HRS := HRS2; clear HRS2)); have HON := (HO.call hbN).less (List.nil_sublist _); clear HO hbN; have HO := HON; clear HON)
    | (go_at_call 10; refine (pasteClean_calls (some ⟨gE, 0, none⟩) 3 [97, 27, 98] (by decide) (by decide) _ (HO.row (.head _)).reads).mono ?_; rintro eN wN ⟨v, RC, rfl, hR, HM⟩; have hbN := HM.below; (try (have HRT2 := Lib.hid (HRT.out.below hbN); clear HRT; have HRT := HRT2; clear HRT2)); (try (have HRS2 := Lib.hid (HRS.out.below hbN); clear HRS; have HRS := HRS2; clear HRS2)); obtain ⟨pC, cC, hv, hcC, hrC⟩ := fRc_of hR HM; subst hv; have hcv1 := run_str_of (P := Tryd.prog) (src := 24) (dst := 9) Tryd.underlying24 Tryd.underlying5 Tryd.underlying9  (c := cC) hrC rfl; have hcv2 := run_str_of (P := Tryd.prog) (src := 24) (dst := 9) Tryd.underlying24 Tryd.underlying5 Tryd.underlying9  (c := cS) HRS.out rfl; have hcv3 := run_str_of (P := Tryd.prog) (src := 24) (dst := 9) Tryd.underlying24 Tryd.underlying5 Tryd.underlying9  (c := cT) HRT.out rfl; clear hrC hR hcC hbN; have HON := (HO.call HM.below).less (List.nil_sublist _); clear HO HM; have HO := HON; clear HON)
    | (go_at_call 14; refine (focus_calls false false false true false false false 0 0 0 false _ (HT.out _ HO.below)).mono ?_; rintro eN wN ⟨v, RF, rfl, hR, HM⟩; obtain ⟨pF, cF, hv, hcF, hrF⟩ := fRc_of hR HM; subst hv; have hcv4 := run_str_of (P := Tryd.prog) (src := 24) (dst := 9) Tryd.underlying24 Tryd.underlying5 Tryd.underlying9  (c := cF) hrF rfl; clear hrF hR hcF hcv1 hcv2 hcv3; have HON := (HO.call HM.below).less (List.nil_sublist _); clear HO HM; have HO := HON; clear HON)
    | ((with_reducible refine gate ?_); (first
      | ((with_reducible refine gateAt (N := 8) rfl ?_); refine own_litB HO rfl (n := 3) (cs := [Value.int .u8 97, Value.int .u8 27, Value.int .u8 98]) (T := 5) (by first | (go_simp; done) | (go_simp; rfl)) ?_; clear HO; intro gE wN hggE HO hbN; (try (have HRT2 := Lib.hid (HRT.out.below hbN); clear HRT; have HRT := HRT2; clear HRT2)); (try (have HRS2 := Lib.hid (HRS.out.below hbN); clear HRS; have HRS := HRS2; clear HRS2)); clear hbN; (try simp only [Act.put, List.setIfInBounds_toArray, List.set_cons_zero, List.set_cons_succ]))
      | ((with_reducible refine gateAt (N := 9) rfl ?_); refine own_markF (l := [97, 27, 98]) HO rfl rfl (.tmp rfl) Tryd.underlying24 Tryd.underlying5 rfl .here ?_; clear HO; intro wN HO hkN; (try (have HRT2 := Lib.hid (hkN _ _ HRT.out); clear HRT; have HRT := HRT2; clear HRT2)); (try (have HRS2 := Lib.hid (hkN _ _ HRS.out); clear HRS; have HRS := HRS2; clear HRS2)); clear hkN; (try simp only [Act.put, List.setIfInBounds_toArray, List.set_cons_zero, List.set_cons_succ]))
      | ((with_reducible refine gateAt (N := 12) rfl ?_); refine own_litB HO rfl (n := 15) (cs := [Value.int .u8 27, Value.int .u8 91, Value.int .u8 50, Value.int .u8 48, Value.int .u8 48, Value.int .u8 126, Value.int .u8 97, Value.int .u8 98, Value.int .u8 27, Value.int .u8 91, Value.int .u8 50, Value.int .u8 48, Value.int .u8 49, Value.int .u8 126, Value.int .u8 120]) (T := 5) (by first | (go_simp; done) | (go_simp; rfl)) ?_; clear HO; intro gE wN hggE HO hbN; (try (have HRT2 := Lib.hid (HRT.out.below hbN); clear HRT; have HRT := HRT2; clear HRT2)); (try (have HRS2 := Lib.hid (HRS.out.below hbN); clear HRS; have HRS := HRS2; clear HRS2)); clear hbN; (try simp only [Act.put, List.setIfInBounds_toArray, List.set_cons_zero, List.set_cons_succ]))
      | ((with_reducible refine gateAt (N := 13) rfl ?_); refine own_markF (l := [27, 91, 50, 48, 48, 126, 97, 98, 27, 91, 50, 48, 49, 126, 120]) HO rfl rfl (.tmp rfl) Tryd.underlying24 Tryd.underlying5 rfl .here ?_; clear HO; intro wN HO hkN; (try (have HRT2 := Lib.hid (hkN _ _ HRT.out); clear HRT; have HRT := HRT2; clear HRT2)); (try (have HRS2 := Lib.hid (hkN _ _ HRS.out); clear HRS; have HRS := HRS2; clear HRS2)); clear hkN; (try simp only [Act.put, List.setIfInBounds_toArray, List.set_cons_zero, List.set_cons_succ]))
      | ((with_reducible refine gateAt (N := 19) rfl ?_); refine own_litB HO rfl (n := 4) (cs := [Value.int .u8 27, Value.int .u8 91, Value.int .u8 73, Value.int .u8 120]) (T := 5) (by first | (go_simp; done) | (go_simp; rfl)) ?_; clear HO; intro gE wN hggE HO hbN; (try (have HRT2 := Lib.hid (HRT.out.below hbN); clear HRT; have HRT := HRT2; clear HRT2)); (try (have HRS2 := Lib.hid (HRS.out.below hbN); clear HRS; have HRS := HRS2; clear HRS2)); clear hbN; (try simp only [Act.put, List.setIfInBounds_toArray, List.set_cons_zero, List.set_cons_succ]))
      | ((with_reducible refine gateAt (N := 20) rfl ?_); refine own_markF (l := [27, 91, 73, 120]) HO rfl rfl (.tmp rfl) Tryd.underlying24 Tryd.underlying5 rfl .here ?_; clear HO; intro wN HO hkN; (try (have HRT2 := Lib.hid (hkN _ _ HRT.out); clear HRT; have HRT := HRT2; clear HRT2)); (try (have HRS2 := Lib.hid (hkN _ _ HRS.out); clear HRS; have HRS := HRS2; clear HRS2)); clear hkN; (try simp only [Act.put, List.setIfInBounds_toArray, List.set_cons_zero, List.set_cons_succ]))
      | ((with_reducible refine gateAt (N := 24) rfl ?_); refine own_litB HO rfl (n := 3) (cs := [Value.int .u8 97, Value.int .u8 27, Value.int .u8 98]) (T := 5) (by first | (go_simp; done) | (go_simp; rfl)) ?_; clear HO; intro gE wN hggE HO hbN; (try (have HRT2 := Lib.hid (HRT.out.below hbN); clear HRT; have HRT := HRT2; clear HRT2)); (try (have HRS2 := Lib.hid (HRS.out.below hbN); clear HRS; have HRS := HRS2; clear HRS2)); clear hbN; (try simp only [Act.put, List.setIfInBounds_toArray, List.set_cons_zero, List.set_cons_succ]))
      | ((with_reducible refine gateAt (N := 25) rfl ?_); refine own_markF (l := [97, 27, 98]) HO rfl rfl (.tmp rfl) Tryd.underlying24 Tryd.underlying5 rfl .here ?_; clear HO; intro wN HO hkN; (try (have HRT2 := Lib.hid (hkN _ _ HRT.out); clear HRT; have HRT := HRT2; clear HRT2)); (try (have HRS2 := Lib.hid (hkN _ _ HRS.out); clear HRS; have HRS := HRS2; clear HRS2)); clear hkN; (try simp only [Act.put, List.setIfInBounds_toArray, List.set_cons_zero, List.set_cons_succ])))))
  go_ret
  exact ⟨by first | rfl | (simp; done), HO.below⟩
end Go.Proofs.YtcglbfpmcpammaaDoor
end
