/- P: texts run together by shake.py: PaT. -/
import Derived.ArgAppend
import Derived.Below
import Derived.BigQuiet
import Derived.Deep.AppendLies
import Derived.Deep.CutBlock
import Derived.Deep.DeepCutAuto
import Derived.Deep.Draws
import Derived.Deep.LoopGhost
import Derived.Deep.OwnRows
import Derived.Deep.Quiet
import Derived.Deep.QuietTactic
import Derived.Deep.RegionHeld3
import Derived.KernelRfl
import Derived.Laws.AppendOwn
import Derived.Laws.AppendOwnNone
import Derived.Laws.BitsAllLaws
import Derived.Laws.BitsLemmas
import Derived.Laws.BytesArg
import Derived.Laws.Concat
import Derived.Laws.CopyRow
import Derived.Laws.IdiomCopy
import Derived.Laws.IdiomStrings
import Derived.Laws.MakeOwn
import Derived.Laws.OwnMore
import Derived.Laws.Rows
import Derived.Laws.Slices
import Derived.Laws.StructEq
import Derived.Laws.Tables
import Derived.Lib.AppendIntMem
import Derived.Lib.AppendStr
import Derived.Lib.AppendZeros
import Derived.Lib.Bytes
import Derived.Lib.ConvBytes
import Derived.Lib.Hide
import Derived.Lib.ItoaLen
import Derived.Lib.ItoaNum
import Derived.Lib.LaidTab
import Derived.Lib.OthersKept
import Derived.Lib.SliceRun
import Derived.Lib.TrimU
import Derived.LoopIn
import Derived.MapKept
import Derived.Maps.AppendAt
import Derived.Orders
import Derived.OrdersHeld
import Derived.OrdersIn
import Derived.OwnWalk
import Derived.RangeFuncCalls
import Derived.RangeFuncNested
import Derived.RangeFuncWrites
import Derived.RowKit
import Derived.RowKit3
import Derived.Shelf.Bytes.SlEqualAll
import Derived.Shelf.Bytes.SlSearch0
import Derived.Shelf.Bytes.SlSmallAll
import Derived.Shelf.Bytes.Small
import Derived.Shelf.LaysM
import Derived.Shelf.Slices.Empties2
import Derived.Shelf.Slices.Equal
import Derived.Shelf.Small.Strs
import Derived.Shelf.Small.Utf8
import Derived.Shelf.Strconv.Itoa0
import Derived.Shelf.Strconv.Itoa1
import Derived.Shelf.Strconv.Itoa2
import Derived.Shelf.Strconv.Itoa3
import Derived.Shelf.Strings.Builder1
import Derived.Shelf.Strings.Builder2
import Derived.Shelf.Strings.Builder2Cap
import Derived.Shelf.Strings.BuilderCap
import Derived.Shelf.Strings.BuilderF
import Derived.Shelf.Strings.BuilderK
import Derived.Shelf.Strings.OnBuilder
import Derived.Shelf.Strings.Runes
import Derived.Shelf.Strings.Search1
import Derived.Still
import Derived.Tactics
import Derived.TacticsIn
import Derived.Test.YtcglbfpmcpammaaDoorProg
import Derived.WalkKit
import Derived.WideLaws
import Derived.Test.YtcglbfpmcpammaaDoorZP1
import Derived.Test.YtcglbfpmcpammaaDoorZP2
import Derived.Test.YtcglbfpmcpammaaDoorZP3
import Derived.Test.YtcglbfpmcpammaaDoorZP4
import Derived.Test.YtcglbfpmcpammaaDoorZP5
import Derived.Test.YtcglbfpmcpammaaDoorZP6
import Derived.Test.YtcglbfpmcpammaaDoorZP7
import Derived.Test.YtcglbfpmcpammaaDoorZP8
import Derived.Test.YtcglbfpmcpammaaDoorZP9
import Derived.Test.YtcglbfpmcpammaaDoorZP10
import Derived.Test.YtcglbfpmcpammaaDoorZP11
section
namespace Go.Proofs.YtcglbfpmcpammaaDoor
set_option linter.unusedVariables false
set_option linter.unusedSimpArgs false
open Go.RowKit Kit G Go.Proofs.YtcglbfpmcpammaaDoorW.PrintWords Go.Proofs.YtcglbfpmcpammaaDoorW.PrintMore
attribute [local irreducible] wpList Calls wpQuiet
theorem looked_focus (is : Bool) (more : List UInt8) : lookedL (focusL true is ++ more) = (is, true) := by
  cases is
  · rfl
  · rfl
set_option maxRecDepth 100000 in
set_option maxHeartbeats 8000000 in
theorem pasteFocus_calls (x0 x1 x2 x3 x4 x5 x6 : Bool) (x7 x8 x9 : Int) (is : Bool) (A : Option Addr) (n c : Nat) (l : List UInt8) (hl : l.length = n) (hc : n ≤ c) (w : World) (hT : Tab w) (hr : Reads w A (l.map byV)) : Calls Tryd.prog 8 #[.agg #[.bool x0, .bool x1, .bool x2, .bool x3, .bool x4, .bool x5, .bool x6, .int .i64 x7, .int .i64 x8, .int .i64 x9], .bool is, .slice A n c] w fun e w' => e = .returned (.bool true) ∧ Below w.heap.size w w' := by
  have HO := Mine.start w
  have HT := Lib.hid fun W (hW : Below w.heap.size w W) => Tab.below hT hW
  by_cases h100 : 100 < n
  · have d1 : decide ((100 : Int) < (n : Int)) = true := decide_eq_true (by omega)
    have d2 : decide (100 < n) = true := decide_eq_true h100
    clear hT hr hc hl
    go_enter Tryd.func8, Tryd.ntmps8
    go_wp2_with (first
      | (go_at_call 9; refine (awake17_calls _ (HT.out _ HO.below)).mono ?_; rintro eN wN ⟨rfl, hbN⟩; have HON := HO.call hbN; clear HO hbN; have HO := HON; clear HON)
      | (first
      | ((with_reducible refine gate ?_); (first
      | ((with_reducible refine gateAt (N := 3) rfl ?_); refine own_boxF (T := 23) HO rfl rfl rfl ?_; clear HO; intro gM wN hggM HO; (try simp only [Act.put, List.setIfInBounds_toArray, List.set_cons_zero, List.set_cons_succ]))))))
    go_ret
    exact ⟨rfl, HO.below⟩
  · have HFO := Lib.hid fun W (hW : Below w.heap.size w W) => focus_calls x0 x1 x2 x3 x4 x5 x6 x7 x8 x9 is W (HT.out W hW)
    have d1 : decide ((100 : Int) < (n : Int)) = false := decide_eq_false (by omega)
    have d2 : ¬ 100 < n := h100
    cases x3
    · have HF0 : Hid ((focusL false is).length = 0) := Lib.hid rfl
      clear hT hr hc hl
      go_enter Tryd.func8, Tryd.ntmps8
      go_wp2_with (first
        | (go_at_call 9; refine (awake17_calls _ (HT.out _ HO.below)).mono ?_; rintro eN wN ⟨rfl, hbN⟩; have HON := HO.call hbN; clear HO hbN; have HO := HON; clear HON)
        | ((go_at_call 14; refine (HFO.out _ HO.below).mono ?_; rintro eN wN ⟨v, RF, rfl, hRF, HM⟩; obtain ⟨pF, nF, cF, rfl⟩ := hRF.form; have hnF := hRF.len; rw [List.length_map] at hnF; have HRF := Lib.hid hRF; clear hRF; have HON := HO.join HM; clear HO HM; have HO := HON; clear HON; (simp only [List.nil_append, List.cons_append] at HO)); rw [HF0.out] at hnF; subst hnF)
        | (first
      | ((with_reducible refine gate ?_); (first
      | ((with_reducible refine gateAt (N := 3) rfl ?_); refine own_boxF (T := 23) HO rfl rfl rfl ?_; clear HO; intro gM wN hggM HO; (try simp only [Act.put, List.setIfInBounds_toArray, List.set_cons_zero, List.set_cons_succ]))
      | ((refine own_load (T := 23) HO rfl rfl rfl (by first | exact .head _) Tryd.isAgg23 Tryd.sizeOf23 (by repeat constructor) ?_); (try simp only [Act.put, List.setIfInBounds_toArray, List.set_cons_zero, List.set_cons_succ]))
      | ((refine own_load1 (T := 4) HO rfl rfl rfl (by first | exact .head _) Tryd.isAgg4 rfl ?_); (try simp only [Act.put, List.setIfInBounds_toArray, List.set_cons_zero, List.set_cons_succ]))
      | ((refine own_store1 (T := 4) HO rfl rfl rfl (by first | exact .const | exact .tmp rfl | exact .func) (by rfl) (by first | exact .here) Tryd.sizeOf4 (by repeat constructor) (by rfl) ?_); clear HO; intro wN HO; (try simp only [Act.put, List.setIfInBounds_toArray, List.set_cons_zero, List.set_cons_succ]))
      | ((refine own_store (T := 23) HO rfl rfl rfl rfl (by first | exact .here) Tryd.sizeOf23 (by repeat constructor) rfl ?_); clear HO; intro wN HO; (try simp only [Act.put, List.setIfInBounds_toArray, List.set_cons_zero, List.set_cons_succ]))))))
      go_ret
      exact ⟨by first | rfl | (simp; done), HO.below⟩
    · have HR := Lib.hid fun W (hW : Below w.heap.size w W) => hr.below hW
      have hf3 : (focusL true is).length = 3 := by cases is <;> rfl
      have H63a : Hid (([] : List Value).length + 3 ≤ maxLen) := Lib.hid (by unfold maxLen; simp)
      have H64a : Hid ((([] : List Value).length + 3) * 1 ≤ 140737488355328) := Lib.hid (by simp)
      have H63b : Hid (([] ++ (focusL true is).map byV).length + n ≤ maxLen) := Lib.hid (by unfold maxLen; simp [hf3]; omega)
      have H64b : Hid ((([] ++ (focusL true is).map byV).length + n) * 1 ≤ 140737488355328) := Lib.hid (by simp [hf3]; omega)
      have HL1 : Hid (((focusL true is).map byV).length = 3) := Lib.hid (by rw [List.length_map, hf3])
      have HL2 : Hid ((l.map byV).length = n) := Lib.hid (by rw [List.length_map, hl])
      have HF3 := Lib.hid hf3
      have HLN := Lib.hid hl
      clear hT hr hc hl hf3
      go_enter Tryd.func8, Tryd.ntmps8
      go_wp2_with (first
        | (go_at_call 9; refine (awake17_calls _ (HT.out _ HO.below)).mono ?_; rintro eN wN ⟨rfl, hbN⟩; have HON := HO.call hbN; clear HO hbN; have HO := HON; clear HON)
        | ((go_at_call 14; refine (HFO.out _ HO.below).mono ?_; rintro eN wN ⟨v, RF, rfl, hRF, HM⟩; obtain ⟨pF, nF, cF, rfl⟩ := hRF.form; have hnF := hRF.len; rw [List.length_map] at hnF; have HRF := Lib.hid hRF; clear hRF; have HON := HO.join HM; clear HO HM; have HO := HON; clear HON; (simp only [List.nil_append, List.cons_append] at HO)); rw [HF3.out] at hnF; subst hnF)
        | (go_at_call 18; (have hR3' : GRow 5 (.slice p3 n3 c3) ((focusL true is ++ l).map byV) R3 := by simpa using hR3); obtain ⟨hq, hrd, hqc, _⟩ := hR3'.reads (bs := []) (HO.less (by first | exact List.sublist_append_right _ _ | exact .cons _ (List.sublist_append_right _ _) | exact .cons _ (.cons _ (List.sublist_append_right _ _)))); rw [List.length_map] at hq hqc; have hlk := looked_calls p3 c3 (focusL true is ++ l) hqc _ (HT.out _ HO.below) hrd; rw [looked_focus, ← hq] at hlk; refine hlk.mono ?_; clear hlk hrd hq hqc hR3' hR3 hR2; rintro eN wN ⟨rfl, hbN⟩; have HON := HO.call hbN; clear HO hbN; have HO := HON; clear HON)
        | (first
      | ((with_reducible refine gate ?_); (first
      | ((with_reducible refine gateAt (N := 29) rfl ?_); refine own_litF HO rfl (n := 0) (cs := []) (T := 5) (by first | (go_simp; done) | (go_simp; rfl)) ?_; clear HO; intro gE wN hggE HO; (try simp only [Act.put, List.setIfInBounds_toArray, List.set_cons_zero, List.set_cons_succ])); have HOP := HO.perm (List.perm_append_comm (l₁ := [_])); clear HO; have HO := HOP; clear HOP; (simp only [List.cons_append, List.nil_append] at HO); (have hGE : GRow 5 (.slice (some ⟨gE, 0, none⟩) 0 0) [] [(gE, IsCells [] 5)] := GRow.lit (xs := []) (by simp)); have HGE := Lib.hid hGE; clear hGE
      | ((with_reducible refine gateAt (N := 31) rfl ?_); refine own_append (T := 5) (t := 24) (z := .int .u8 0) (bytes := 1) (news := (focusL true is).map byV) HO HGE.out (by first | exact Tl.app | exact Tl.cons Tl.app | exact Tl.cons (Tl.cons Tl.app) | exact Tl.here) rfl rfl (.tmp rfl) (.tmp rfl) Tryd.underlying24 (by kernel_rfl) (by rfl) HL1.out (HRF.out.reads (bs := []) (HO.less (.cons _ (List.sublist_append_left _ _)))).2.1 (byV_one _) H63a.out H64a.out ?_; clear HO; intro p2 n2 c2 wN R2 hR2 HO; (simp only [List.nil_append, List.cons_append] at HO); (try simp only [Act.put, List.setIfInBounds_toArray, List.set_cons_zero, List.set_cons_succ]))
      | ((with_reducible refine gateAt (N := 33) rfl ?_); refine own_append (T := 5) (t := 24) (z := .int .u8 0) (bytes := 1) (news := l.map byV) HO hR2 (by first | exact Tl.app | exact Tl.cons Tl.app | exact Tl.cons (Tl.cons Tl.app) | exact Tl.here) rfl rfl (.tmp rfl) (.tmp rfl) Tryd.underlying24 (by kernel_rfl) (by rfl) HL2.out (HR.out _ HO.below) (byV_one _) H63b.out H64b.out ?_; clear HO; intro p3 n3 c3 wN R3 hR3 HO; (simp only [List.nil_append, List.cons_append] at HO); (try simp only [Act.put, List.setIfInBounds_toArray, List.set_cons_zero, List.set_cons_succ]))
      | ((with_reducible refine gateAt (N := 3) rfl ?_); refine own_boxF (T := 23) HO rfl rfl rfl ?_; clear HO; intro gM wN hggM HO; (try simp only [Act.put, List.setIfInBounds_toArray, List.set_cons_zero, List.set_cons_succ]))
      | ((refine own_load (T := 23) HO rfl rfl rfl (by first | exact .head _) Tryd.isAgg23 Tryd.sizeOf23 (by repeat constructor) ?_); (try simp only [Act.put, List.setIfInBounds_toArray, List.set_cons_zero, List.set_cons_succ]))
      | ((refine own_load1 (T := 4) HO rfl rfl rfl (by first | exact .head _) Tryd.isAgg4 rfl ?_); (try simp only [Act.put, List.setIfInBounds_toArray, List.set_cons_zero, List.set_cons_succ]))
      | ((refine own_store1 (T := 4) HO rfl rfl rfl (by first | exact .const | exact .tmp rfl | exact .func) (by rfl) (by first | exact .here) Tryd.sizeOf4 (by repeat constructor) (by rfl) ?_); clear HO; intro wN HO; (try simp only [Act.put, List.setIfInBounds_toArray, List.set_cons_zero, List.set_cons_succ]))
      | ((refine own_store (T := 23) HO rfl rfl rfl rfl (by first | exact .here) Tryd.sizeOf23 (by repeat constructor) rfl ?_); clear HO; intro wN HO; (try simp only [Act.put, List.setIfInBounds_toArray, List.set_cons_zero, List.set_cons_succ]))))))
      go_ret
      exact ⟨by first | rfl | (simp; done), HO.below⟩
end Go.Proofs.YtcglbfpmcpammaaDoor
end
