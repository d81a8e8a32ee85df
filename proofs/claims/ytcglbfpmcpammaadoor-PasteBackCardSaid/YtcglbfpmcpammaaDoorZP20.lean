/- P: texts run together by shake.py: KitO PuU PaW. -/
import Derived.ArgAppend
import Derived.Below
import Derived.BigQuiet
import Derived.ChangeOld
import Derived.ChangeSlices
import Derived.Deep.AppendLies
import Derived.Deep.CutBlock
import Derived.Deep.DeepCutAuto
import Derived.Deep.Draws
import Derived.Deep.LoopGhost
import Derived.Deep.OwnRows
import Derived.Deep.Quiet
import Derived.Deep.QuietTactic
import Derived.Deep.RegionHeld3
import Derived.KernelRfl
import Derived.Laws.AppendOwn
import Derived.Laws.AppendOwnNone
import Derived.Laws.BitsAllLaws
import Derived.Laws.BitsLemmas
import Derived.Laws.BytesArg
import Derived.Laws.Concat
import Derived.Laws.CopyRow
import Derived.Laws.IdiomCopy
import Derived.Laws.IdiomStrings
import Derived.Laws.MakeOwn
import Derived.Laws.OwnMore
import Derived.Laws.Rows
import Derived.Laws.Slices
import Derived.Laws.StructEq
import Derived.Laws.Tables
import Derived.Lib.AppendIntMem
import Derived.Lib.AppendStr
import Derived.Lib.AppendZeros
import Derived.Lib.Bytes
import Derived.Lib.ConvBytes
import Derived.Lib.Hide
import Derived.Lib.ItoaLen
import Derived.Lib.ItoaNum
import Derived.Lib.LaidTab
import Derived.Lib.OthersKept
import Derived.Lib.SliceRun
import Derived.Lib.TrimU
import Derived.LoopIn
import Derived.MapKept
import Derived.Maps.AppendAt
import Derived.OpenShut
import Derived.Orders
import Derived.OrdersHeld
import Derived.OrdersIn
import Derived.OwnWalk
import Derived.ProofKit
import Derived.RangeFuncCalls
import Derived.RangeFuncNested
import Derived.RangeFuncWrites
import Derived.RowKit
import Derived.RowKit3
import Derived.Shelf.Bytes.SlEqualAll
import Derived.Shelf.Bytes.SlSearch0
import Derived.Shelf.Bytes.SlSmallAll
import Derived.Shelf.Bytes.Small
import Derived.Shelf.LaysM
import Derived.Shelf.Slices.Empties2
import Derived.Shelf.Slices.Equal
import Derived.Shelf.Small.Strs
import Derived.Shelf.Small.Utf8
import Derived.Shelf.Strconv.Itoa0
import Derived.Shelf.Strconv.Itoa1
import Derived.Shelf.Strconv.Itoa2
import Derived.Shelf.Strconv.Itoa3
import Derived.Shelf.Strings.Builder1
import Derived.Shelf.Strings.Builder2
import Derived.Shelf.Strings.Builder2Cap
import Derived.Shelf.Strings.BuilderCap
import Derived.Shelf.Strings.BuilderF
import Derived.Shelf.Strings.BuilderK
import Derived.Shelf.Strings.OnBuilder
import Derived.Shelf.Strings.Runes
import Derived.Shelf.Strings.Search1
import Derived.ShutString
import Derived.SizedLaws
import Derived.Still
import Derived.Tactics
import Derived.TacticsIn
import Derived.Test.YtcglbfpmcpammaaDoorProg
import Derived.WalkKit
import Derived.WideLaws
import Derived.Test.YtcglbfpmcpammaaDoorZP1
import Derived.Test.YtcglbfpmcpammaaDoorZP2
import Derived.Test.YtcglbfpmcpammaaDoorZP3
import Derived.Test.YtcglbfpmcpammaaDoorZP4
import Derived.Test.YtcglbfpmcpammaaDoorZP5
import Derived.Test.YtcglbfpmcpammaaDoorZP6
import Derived.Test.YtcglbfpmcpammaaDoorZP7
import Derived.Test.YtcglbfpmcpammaaDoorZP8
import Derived.Test.YtcglbfpmcpammaaDoorZP9
import Derived.Test.YtcglbfpmcpammaaDoorZP10
import Derived.Test.YtcglbfpmcpammaaDoorZP11
import Derived.Test.YtcglbfpmcpammaaDoorZP12
import Derived.Test.YtcglbfpmcpammaaDoorZP13
import Derived.Test.YtcglbfpmcpammaaDoorZP15
import Derived.Test.YtcglbfpmcpammaaDoorZP16
section
namespace Go.Proofs.YtcglbfpmcpammaaDoor
open Go.ChangeShapes Go.WideShapes Go.ChangeAt Go.RowKit Go.Proofs.YtcglbfpmcpammaaDoorW.PrintWords Kit
set_option linter.unusedVariables false
set_option maxRecDepth 100000
set_option linter.unusedSimpArgs false
theorem u16In {x : Int} (h : (Lit.int .u16 x).wf = true) : 0 ≤ x ∧ x < 65536 := by
  simp [Lit.wf, IntKind.min, IntKind.max, IntKind.signed, IntKind.bits] at h
  omega
end Go.Proofs.YtcglbfpmcpammaaDoor
end
section
namespace Go.Proofs.YtcglbfpmcpammaaDoor
set_option linter.unusedVariables false
set_option linter.unusedSimpArgs false
theorem put_esc {r : Nat} (hr : cleanR r = true) : (27 : UInt8) ∉ putU r := by
  unfold putU
  have hne : r ≠ 27 := by intro e; subst e; revert hr; decide
  split
  · simp
  · have e27 : ∀ a : Nat, a < 256 → a ≠ 27 → (27 : UInt8) ≠ UInt8.ofNat a := by
      intro a h1 h2 e
      have : (27 : UInt8).toNat = (UInt8.ofNat a).toNat := by rw [← e]
      rw [UInt8.toNat_ofNat', Nat.mod_eq_of_lt h1] at this
      exact h2 this.symm
    split
    · simp only [List.mem_singleton]; exact e27 r (by omega) hne
    · rename_i hu h1
      have hu' : r ≤ 1114111 := by
        simp [isU] at hu; omega
      split
      · simp only [List.mem_cons, List.not_mem_nil, or_false, not_or]; exact ⟨e27 _ (by omega) (by omega), e27 _ (by omega) (by omega)⟩
      · split
        · simp only [List.mem_cons, List.not_mem_nil, or_false, not_or]; exact ⟨e27 _ (by omega) (by omega), e27 _ (by omega) (by omega), e27 _ (by omega) (by omega)⟩
        · simp only [List.mem_cons, List.not_mem_nil, or_false, not_or]; exact ⟨e27 _ (by omega) (by omega), e27 _ (by omega) (by omega), e27 _ (by omega) (by omega), e27 _ (by omega) (by omega)⟩
theorem Cl.esc {l : List UInt8} (h : Cl l) : (27 : UInt8) ∉ l := by
  induction h with
  | nil => simp
  | @cons x y r h0 ht hr _ ih =>
    have hs := (takeU_spec ht).2.2.1 h0
    rw [List.take_length] at hs
    rw [List.mem_append, not_or]
    refine ⟨?_, ih⟩
    rw [← hs]
    exact put_esc hr
theorem takeP_part (p : List UInt8) (k : Nat) (hk : k < (sentP p).length) : takeP ((sentP p).take k) = none := by
  unfold takeP
  split
  · rename_i h1
    split
    · rename_i h2
      exfalso
      obtain ⟨s, hs⟩ : ∃ s, s = spanU (((sentP p).take k).drop 6) := ⟨_, rfl⟩
      rw [← hs] at h2
      have hl : (sentP p).length = (cleanL p).length + 12 := by simp [sentP, openM, shutM]
      have hlen := congrArg List.length h2
      simp [shutM] at hlen
      have h3 : (sentP p)[6 + s]? = some 27 := by
        have := congrArg (fun x => x[0]?) h2
        simp [shutM, List.getElem?_take, List.getElem?_drop] at this
        rw [show 6 + s = s + 6 by omega] at *
        first | exact this.2 | (have := this; simp_all)
      have h4 : 6 + s < 6 + (cleanL p).length := by omega
      have h5 : (sentP p)[6 + s]? = (cleanL p)[s]? := by
        unfold sentP
        rw [List.append_assoc, List.getElem?_append_right (by simp [openM]), List.getElem?_append_left (by simp [openM]; omega)]
        congr 1
        simp [openM]
      rw [h3] at h5
      exact (cl_clean p).esc (List.mem_of_getElem? h5.symm)
    · rfl
  · rfl
end Go.Proofs.YtcglbfpmcpammaaDoor
end
section
namespace Go.Proofs.YtcglbfpmcpammaaDoor
set_option linter.unusedVariables false
set_option linter.unusedSimpArgs false
open Go.RowKit Kit G Go.Proofs.YtcglbfpmcpammaaDoorW.PrintWords Go.Proofs.YtcglbfpmcpammaaDoorW.PrintMore
theorem takeV_part (p : List UInt8) (k : Nat) (hk : k < (sentP p).length) : takeV ((sentP p).take k) = ([], 0, false) := by
  unfold takeV
  rw [takeP_part p k hk]
attribute [local irreducible] wpList Calls wpQuiet
set_option maxRecDepth 100000 in
set_option maxHeartbeats 8000000 in
theorem pasteBack_calls (A : Option Addr) (n c : Nat) (l : List UInt8) (hl : l.length = n) (hc : n ≤ c) (A2 : Option Addr) (n2 c2 : Nat) (l2 : List UInt8) (hl2 : l2.length = n2) (hc2 : n2 ≤ c2) (cut : Int) (hcut : 0 ≤ cut) (hcut2 : cut < 65536) (w : World) (hT : Tab w) (hr : Reads w A (l.map byV)) (hr2 : Reads w A2 (l2.map byV)) :
    Calls Tryd.prog 6 #[.slice A n c, .slice A2 n2 c2, .int .u16 cut] w fun e w' => e = .returned (.bool true) ∧ Below w.heap.size w w' := by
  have HO := Mine.start w
  have HT := Lib.hid fun W (hW : Below w.heap.size w W) => Tab.below hT hW
  by_cases h200 : 200 < n
  · have d1 : decide ((200 : Int) < (n : Int)) = true := decide_eq_true (by omega)
    have d2 : 200 < n := h200
    clear hT hr hr2 hc hc2 hl hl2
    go_enter Tryd.func6, Tryd.ntmps6
    go_wp2_with (go_at_call 9; refine (awake17_calls _ (HT.out _ HO.below)).mono ?_; rintro eN wN ⟨rfl, hbN⟩; have HON := HO.call hbN; clear HO hbN; have HO := HON; clear HON)
    go_ret
    exact ⟨rfl, HO.below⟩
  by_cases h100 : 100 < n2
  · have d1 : decide ((200 : Int) < (n : Int)) = false := decide_eq_false (by omega)
    have d2 : ¬ 200 < n := h200
    have d3 : decide ((100 : Int) < (n2 : Int)) = true := decide_eq_true (by omega)
    have d4 : 100 < n2 := h100
    clear hT hr hr2 hc hc2 hl hl2
    go_enter Tryd.func6, Tryd.ntmps6
    go_wp2_with (go_at_call 9; refine (awake17_calls _ (HT.out _ HO.below)).mono ?_; rintro eN wN ⟨rfl, hbN⟩; have HON := HO.call hbN; clear HO hbN; have HO := HON; clear HON)
    go_ret
    exact ⟨rfl, HO.below⟩
  have d1 : decide ((200 : Int) < (n : Int)) = false := decide_eq_false (by omega)
  have d2 : ¬ 200 < n := h200
  have d3 : decide ((100 : Int) < (n2 : Int)) = false := decide_eq_false (by omega)
  have d4 : ¬ 100 < n2 := h100
  obtain ⟨y, rfl⟩ : ∃ y : Nat, cut = (y : Int) := ⟨cut.toNat, by omega⟩
  have hy : y < 65536 := by omega
  obtain ⟨sP, hsP⟩ : ∃ sP, sentP l = sP := ⟨_, rfl⟩
  obtain ⟨N, hN⟩ : ∃ N, sP.length = N := ⟨_, rfl⟩
  have hle := cleanL_le l
  have hNl : N = (cleanL l).length + 12 := by rw [← hN, ← hsP, sent_len]
  have hN0 : 0 < N := by omega
  have hN300 : N ≤ 300 := by omega
  obtain ⟨x, hx⟩ : ∃ x, y % N = x := ⟨_, rfl⟩
  have hxN : x < N := by rw [← hx]; exact Nat.mod_lt _ hN0
  have HSA := Lib.hid fun W (hW : Below w.heap.size w W) => pasteSend_calls false false false false true false false 0 0 0 A c l (by omega) (by omega) W (HT.out W hW) (hr.below hW)
  have HSB := Lib.hid fun W (hW : Below w.heap.size w W) => pasteSend_calls false false false false false false false 0 0 0 A c l (by omega) (by omega) W (HT.out W hW) (hr.below hW)
  have HCA := Lib.hid fun W (hW : Below w.heap.size w W) => pasteClean_calls A c l (by omega) (by omega) W (hr.below hW)
  have hta := fun (p : Option Addr) (cc : Nat) W (hcc : (sP ++ l2).length ≤ cc) (hW : Below w.heap.size w W) (hrW : Reads W p ((sP ++ l2).map byV)) => pasteTake_calls p cc (sP ++ l2) hcc (by rw [List.length_append]; omega) W (HT.out W hW) hrW
  have hV : takeV (sP ++ l2) = (cleanL l, N, true) := by rw [← hsP, takeV_sent, hsP, hN]
  rw [hV] at hta
  have hsx : (sP.take x).length = x := by rw [List.length_take]; omega
  have htb := fun (p : Option Addr) (cc : Nat) W (hcc : N ≤ cc) (hW : Below w.heap.size w W) (hrW : Reads W p ((sP.take x).map byV)) => pasteTake_calls p cc (sP.take x) (by rw [hsx]; omega) (by rw [hsx]; omega) W (HT.out W hW) hrW
  have hV2 : takeV (sP.take x) = ([], 0, false) := by rw [← hsP]; exact takeV_part l x (by rw [hsP, hN]; exact hxN)
  rw [hV2, hsx] at htb
  have hS1 : sendL true l = sP := hsP
  have hS0 : sendL false l = cleanL l := rfl
  rw [hS1] at HSA
  rw [hS0] at HSB
  rw [hl] at HSA HSB HCA
  have HTA := Lib.hid hta
  have HTB := Lib.hid htb
  have HNN := Lib.hid hN
  have HR2 := Lib.hid fun W (hW : Below w.heap.size w W) => hr2.below hW
  have HL1 : Hid ((sP.map byV).length = N) := Lib.hid (by rw [List.length_map, hN])
  have HL2 : Hid ((l2.map byV).length = n2) := Lib.hid (by rw [List.length_map, hl2])
  have H63a : Hid (([] : List Value).length + N ≤ maxLen) := Lib.hid (by unfold maxLen; simp; omega)
  have H64a : Hid ((([] : List Value).length + N) * 1 ≤ 140737488355328) := Lib.hid (by simp; omega)
  have H63b : Hid (([] ++ sP.map byV).length + n2 ≤ maxLen) := Lib.hid (by unfold maxLen; simp; omega)
  have H64b : Hid ((([] ++ sP.map byV).length + n2) * 1 ≤ 140737488355328) := Lib.hid (by simp; omega)
  have e1 : ((N : Int) == 0) = false := beq_eq_false_iff_ne.2 (by omega)
  have e2 : ¬ N = 0 := by omega
  have e3 : ¬ (N : Int) = 0 := by omega
  have e4 : Int.tmod (y : Int) (N : Int) = (x : Int) := by rw [Int.tmod_eq_emod_of_nonneg (by omega), ← hx]; omega
  have e5 : IntKind.i64.wrap (y : Int) = (y : Int) := IntWalk.i64_in _ (by omega)
  have e6 : x ≤ N := by omega
  have e7 : IntKind.i64.wrap (x : Int) = (x : Int) := IntWalk.i64_in _ (by omega)
  clear hT hr hr2 hc hc2 hl hl2 hta htb hV hV2 hsx hS1 hS0 hsP hN hle hNl hx hcut hcut2
  go_enter Tryd.func6, Tryd.ntmps6
  go_wp2_with (first
    | (go_at_call 9; refine (awake17_calls _ (HT.out _ HO.below)).mono ?_; rintro eN wN ⟨rfl, hbN⟩; have HON := HO.call hbN; clear HO hbN; have HO := HON; clear HON)
    | (go_at_call 12; refine (HSA.out _ HO.below).mono ?_; rintro eN wN ⟨v, RS, rfl, hRS, HM⟩; obtain ⟨pS, nS, cS, rfl⟩ := hRS.form; have hnS := hRS.len; rw [List.length_map, HNN.out] at hnS; have hqS := (hRS.readsT HM .here).2.2.1; rw [List.length_map, HNN.out] at hqS; have hxS := Nat.le_trans e6 hqS; have hxS2 := Nat.not_lt.2 hxS; have HCS := Lib.hid hqS; clear hqS; subst hnS; have HRS := Lib.hid hRS; clear hRS; have HON := HO.join HM; clear HO HM; have HO := HON; clear HON; (try simp only [List.nil_append, List.cons_append] at HO))
    | (go_at_call 16; (have hR3' : GRow 5 (.slice p3 n3 c3) ((sP ++ l2).map byV) R3 := by simpa using hR3); obtain ⟨hq, hrd, hqc, _⟩ := hR3'.reads (bs := []) (HO.less (List.sublist_append_right _ _)); rw [List.length_map] at hq hqc; have hlk := HTA.out p3 c3 _ hqc HO.below hrd; rw [← hq] at hlk; refine hlk.mono ?_; clear hlk hrd hq hqc hR3' hR3 hR2; unfold TakeAns; rintro eN wN ⟨⟨v, rfl, pT, cT, rfl, hcT, hrT⟩, hbN⟩; have HRT := Lib.hid hrT; clear hrT hcT; have HON := (HO.call hbN).less (List.sublist_append_left _ _); clear HO hbN; have HO := HON; clear HON)
    | (go_at_call 16; have hrd := (HRS.out.reads (bs := []) HO).2.1; have hlk := HTB.out pS cS _ HCS.out HO.below (rdTake hrd x); refine hlk.mono ?_; clear hlk hrd; unfold TakeAns; rintro eN wN ⟨⟨v, rfl, pU, cU, rfl, hcU, hrU⟩, hbN⟩; clear hrU hcU; (try (have HRT2 := Lib.hid (HRT.out.below hbN); clear HRT; have HRT := HRT2; clear HRT2)); have HON := HO.call hbN; clear HO hbN; have HO := HON; clear HON)
    | (first
      | ((with_reducible refine gate ?_); (first
      | ((with_reducible refine gateAt (N := 32) rfl ?_); refine own_litF HO rfl (n := 0) (cs := []) (T := 5) (by first | (go_simp; done) | (go_simp; rfl)) ?_; clear HO; intro gE wN hggE HO; (try simp only [Act.put, List.setIfInBounds_toArray, List.set_cons_zero, List.set_cons_succ])); have HOP := HO.perm (List.perm_append_comm (l₁ := [_])); clear HO; have HO := HOP; clear HOP; (try simp only [List.cons_append, List.nil_append] at HO); (have hGE : GRow 5 (.slice (some ⟨gE, 0, none⟩) 0 0) [] [(gE, IsCells [] 5)] := GRow.lit (xs := []) (by simp)); have HGE := Lib.hid hGE; clear hGE
      | ((with_reducible refine gateAt (N := 34) rfl ?_); refine own_append (T := 5) (t := 24) (z := .int .u8 0) (bytes := 1) (news := sP.map byV) HO HGE.out (by first | exact Tl.app | exact Tl.cons Tl.app | exact Tl.cons (Tl.cons Tl.app) | exact Tl.here) rfl rfl (.tmp rfl) (.tmp rfl) Tryd.underlying24 (by kernel_rfl) (by rfl) HL1.out (HRS.out.reads (bs := []) (HO.less (List.sublist_append_left _ _))).2.1 (byV_one _) H63a.out H64a.out ?_; clear HO; intro p2 n2 c2 wN R2 hR2 HO; (try simp only [List.nil_append, List.cons_append] at HO); (try simp only [Act.put, List.setIfInBounds_toArray, List.set_cons_zero, List.set_cons_succ]))
      | ((with_reducible refine gateAt (N := 36) rfl ?_); refine own_append (T := 5) (t := 24) (z := .int .u8 0) (bytes := 1) (news := l2.map byV) HO hR2 (by first | exact Tl.app | exact Tl.cons Tl.app | exact Tl.cons (Tl.cons Tl.app) | exact Tl.here) rfl rfl (.tmp rfl) (.tmp rfl) Tryd.underlying24 (by kernel_rfl) (by rfl) HL2.out (HR2.out _ HO.below) (byV_one _) H63b.out H64b.out ?_; clear HO; intro p3 n3 c3 wN R3 hR3 HO; (try simp only [List.nil_append, List.cons_append] at HO); (try simp only [Act.put, List.setIfInBounds_toArray, List.set_cons_zero, List.set_cons_succ]))))))
  refine region_law 31 [fIs (.bool true), fIs (.bool true), fIs (.bool true), fIs (.bool true), fIs (.bool true), fIs (.int .i64 (nS : Int)), fIs (.slice pS nS cS), fIs (.int .i64 (nS : Int)), fIs (.bool true), fIs (.bool true), fIs (.bool true), fIs (.slice pT (cleanL l).length cT), fIs (.string ⟨(cleanL l).toArray⟩), fIs (.slice A n c), fRc (cleanL l), fIs (.string ⟨(cleanL l).toArray⟩), fIs (.bool true), fIs (.bool true), fIs (.bool true), fIs (.bool false), fIs (.bool true), fIs (.bool true), fIs (.bool true), fIs (.agg #[.bool false, .bool false, .bool false, .bool false, .bool false, .bool false, .bool false, .int .i64 0, .int .i64 0, .int .i64 0]), fIs (.slice A n c), fRc (cleanL l), fIs (.string ⟨(cleanL l).toArray⟩), fIs (.slice pT (cleanL l).length cT), fIs (.string ⟨(cleanL l).toArray⟩), fIs (.bool true), fIs (.bool true)] HO (by kernel_rfl) (by kernel_rfl) (by decide) (by kernel_rfl)
    (stays_cons (Stays.fIs _) (stays_cons (Stays.fIs _) (stays_cons (Stays.fIs _) (stays_cons (Stays.fIs _) (stays_cons (Stays.fIs _) (stays_cons (Stays.fIs _) (stays_cons (Stays.fIs _) (stays_cons (Stays.fIs _) (stays_cons (Stays.fIs _) (stays_cons (Stays.fIs _) (stays_cons (Stays.fIs _) (stays_cons (Stays.fIs _) (stays_cons (Stays.fIs _) (stays_cons (Stays.fIs _) (stays_cons (Stays.fRc _) (stays_cons (Stays.fIs _) (stays_cons (Stays.fIs _) (stays_cons (Stays.fIs _) (stays_cons (Stays.fIs _) (stays_cons (Stays.fIs _) (stays_cons (Stays.fIs _) (stays_cons (Stays.fIs _) (stays_cons (Stays.fIs _) (stays_cons (Stays.fIs _) (stays_cons (Stays.fIs _) (stays_cons (Stays.fRc _) (stays_cons (Stays.fIs _) (stays_cons (Stays.fIs _) (stays_cons (Stays.fIs _) (stays_cons (Stays.fIs _) (stays_cons (Stays.fIs _) stays_nil))))))))))))))))))))))))))))))) ?_
  intro vals A hA
  simp [fillL, dstOf, List.range, List.range.loop, Act.put] at hA
  subst hA
  refine ⟨⟨?_, ?_, ?_, ?_, ?_, ?_, ?_, ?_, ?_, ?_, ?_, ?_, ?_, ?_, ?_, ?_, ?_, ?_, ?_, ?_, ?_, ?_, ?_, ?_, ?_, ?_, ?_, ?_, ?_, ?_, ?_, trivial⟩, ?_⟩
  all_goals intro W hd hM hb0
  case refine_1 =>
    skip
    exact st_val rfl (by simp only [execOp]; first | (go_simp; done) | (go_simp; rfl)) rfl
  case refine_2 =>
    have v0 : vals 0 = .bool true := hd 0 (by kernel_rfl)
    rw [v0]
    exact st_val rfl (by simp only [execOp]; first | (go_simp; done) | (go_simp; rfl)) rfl
  case refine_3 =>
    have v1 : vals 1 = .bool true := hd 1 (by kernel_rfl)
    rw [v1]
    exact st_val rfl (by simp only [execOp]; first | (go_simp; done) | (go_simp; rfl)) rfl
  case refine_4 =>
    have v1 : vals 1 = .bool true := hd 1 (by kernel_rfl)
    have v2 : vals 2 = .bool true := hd 2 (by kernel_rfl)
    rw [v1, v2]
    exact st_val rfl (by simp only [execOp]; first | (go_simp; done) | (go_simp; rfl)) rfl
  case refine_5 =>
    have v3 : vals 3 = .bool true := hd 3 (by kernel_rfl)
    rw [v3]
    exact st_val rfl (by simp only [execOp]; first | (go_simp; done) | (go_simp; rfl)) rfl
  case refine_6 =>
    have v4 : vals 4 = .bool true := hd 4 (by kernel_rfl)
    rw [v4]
    exact st_val rfl (by simp only [execOp]; first | (go_simp; done) | (go_simp; rfl)) rfl
  case refine_7 =>
    have v4 : vals 4 = .bool true := hd 4 (by kernel_rfl)
    rw [v4]
    exact st_val rfl (by simp only [execOp]; first | (go_simp; done) | (go_simp; rfl)) rfl
  case refine_8 =>
    have v4 : vals 4 = .bool true := hd 4 (by kernel_rfl)
    have v6 : vals 6 = .slice pS nS cS := hd 6 (by kernel_rfl)
    rw [v4, v6]
    exact st_val rfl (by simp only [execOp]; first | (go_simp; done) | (go_simp; rfl)) rfl
  case refine_9 =>
    have v4 : vals 4 = .bool true := hd 4 (by kernel_rfl)
    have v5 : vals 5 = .int .i64 (nS : Int) := hd 5 (by kernel_rfl)
    have v7 : vals 7 = .int .i64 (nS : Int) := hd 7 (by kernel_rfl)
    rw [v4, v5, v7]
    exact st_val rfl (by simp only [execOp]; first | (go_simp; done) | (go_simp; rfl)) rfl
  case refine_10 =>
    have v4 : vals 4 = .bool true := hd 4 (by kernel_rfl)
    have v8 : vals 8 = .bool true := hd 8 (by kernel_rfl)
    rw [v4, v8]
    exact st_val rfl (by simp only [execOp]; first | (go_simp; done) | (go_simp; rfl)) rfl
  case refine_11 =>
    have v9 : vals 9 = .bool true := hd 9 (by kernel_rfl)
    rw [v9]
    exact st_val rfl (by simp only [execOp]; first | (go_simp; done) | (go_simp; rfl)) rfl
  case refine_12 =>
    have v10 : vals 10 = .bool true := hd 10 (by kernel_rfl)
    rw [v10]
    exact st_val rfl (by simp only [execOp]; first | (go_simp; done) | (go_simp; rfl)) rfl
  case refine_13 =>
    have v10 : vals 10 = .bool true := hd 10 (by kernel_rfl)
    have v11 : vals 11 = .slice pT (cleanL l).length cT := hd 11 (by kernel_rfl)
    rw [v10, v11]
    have hcv := run_str_of (P := Tryd.prog) (src := 24) (dst := 9) Tryd.underlying24 Tryd.underlying5 Tryd.underlying9 (c := cT) (HRT.out.below hb0) rfl
    exact st_val rfl (by simp only [execOp]; first | (go_simp; done) | (go_simp; rfl)) rfl
  case refine_14 =>
    have v10 : vals 10 = .bool true := hd 10 (by kernel_rfl)
    rw [v10]
    exact st_val rfl (by simp only [execOp]; first | (go_simp; done) | (go_simp; rfl)) rfl
  case refine_15 =>
    have v10 : vals 10 = .bool true := hd 10 (by kernel_rfl)
    have v13 : vals 13 = .slice A n c := hd 13 (by kernel_rfl)
    rw [v10, v13]
    exact st_call rfl (by simp only [execOp]; first | (go_simp; done) | (go_simp; rfl)) (HCA.out W hM.below) (by rintro e w' ⟨v, R, rfl, hR, hMM⟩; exact ⟨_, rfl, hMM.below, fRc_of hR hMM⟩)
  case refine_16 =>
    have v10 : vals 10 = .bool true := hd 10 (by kernel_rfl)
    rw [v10]
    obtain ⟨pA, cA, eA, hcA, hrA⟩ : fRc (cleanL l) (vals 14) W := hd 14 (by kernel_rfl)
    rw [eA]
    have hcv := run_str_of (P := Tryd.prog) (src := 24) (dst := 9) Tryd.underlying24 Tryd.underlying5 Tryd.underlying9 (c := cA) hrA rfl
    exact st_val rfl (by simp only [execOp]; first | (go_simp; done) | (go_simp; rfl)) rfl
  case refine_17 =>
    have v10 : vals 10 = .bool true := hd 10 (by kernel_rfl)
    have v12 : vals 12 = .string ⟨(cleanL l).toArray⟩ := hd 12 (by kernel_rfl)
    have v15 : vals 15 = .string ⟨(cleanL l).toArray⟩ := hd 15 (by kernel_rfl)
    rw [v10, v12, v15]
    have hse := beqD (cleanL l) (cleanL l)
    rw [decide_eq_true rfl] at hse
    exact st_val rfl (by simp only [execOp]; first | (go_simp; done) | (go_simp; rfl)) rfl
  case refine_18 =>
    have v10 : vals 10 = .bool true := hd 10 (by kernel_rfl)
    have v16 : vals 16 = .bool true := hd 16 (by kernel_rfl)
    rw [v10, v16]
    exact st_val rfl (by simp only [execOp]; first | (go_simp; done) | (go_simp; rfl)) rfl
  case refine_19 =>
    have v17 : vals 17 = .bool true := hd 17 (by kernel_rfl)
    rw [v17]
    exact st_val rfl (by simp only [execOp]; first | (go_simp; done) | (go_simp; rfl)) rfl
  case refine_20 =>
    have v18 : vals 18 = .bool true := hd 18 (by kernel_rfl)
    rw [v18]
    exact st_val rfl (by simp only [execOp]; first | (go_simp; done) | (go_simp; rfl)) rfl
  case refine_21 =>
    have v18 : vals 18 = .bool true := hd 18 (by kernel_rfl)
    have v19 : vals 19 = .bool false := hd 19 (by kernel_rfl)
    rw [v18, v19]
    exact st_val rfl (by simp only [execOp]; first | (go_simp; done) | (go_simp; rfl)) rfl
  case refine_22 =>
    have v18 : vals 18 = .bool true := hd 18 (by kernel_rfl)
    have v20 : vals 20 = .bool true := hd 20 (by kernel_rfl)
    rw [v18, v20]
    exact st_val rfl (by simp only [execOp]; first | (go_simp; done) | (go_simp; rfl)) rfl
  case refine_23 =>
    have v21 : vals 21 = .bool true := hd 21 (by kernel_rfl)
    rw [v21]
    exact st_val rfl (by simp only [execOp]; first | (go_simp; done) | (go_simp; rfl)) rfl
  case refine_24 =>
    have v22 : vals 22 = .bool true := hd 22 (by kernel_rfl)
    rw [v22]
    exact st_val rfl (by simp only [execOp]; first | (go_simp; done) | (go_simp; rfl)) rfl
  case refine_25 =>
    have v22 : vals 22 = .bool true := hd 22 (by kernel_rfl)
    rw [v22]
    exact st_val rfl (by simp only [execOp]; first | (go_simp; done) | (go_simp; rfl)) rfl
  case refine_26 =>
    have v22 : vals 22 = .bool true := hd 22 (by kernel_rfl)
    have v23 : vals 23 = .agg #[.bool false, .bool false, .bool false, .bool false, .bool false, .bool false, .bool false, .int .i64 0, .int .i64 0, .int .i64 0] := hd 23 (by kernel_rfl)
    have v24 : vals 24 = .slice A n c := hd 24 (by kernel_rfl)
    rw [v22, v23, v24]
    exact st_call rfl (by simp only [execOp]; first | (go_simp; done) | (go_simp; rfl)) (HSB.out W hM.below) (by rintro e w' ⟨v, R, rfl, hR, hMM⟩; exact ⟨_, rfl, hMM.below, fRc_of hR hMM⟩)
  case refine_27 =>
    have v22 : vals 22 = .bool true := hd 22 (by kernel_rfl)
    rw [v22]
    obtain ⟨pA, cA, eA, hcA, hrA⟩ : fRc (cleanL l) (vals 25) W := hd 25 (by kernel_rfl)
    rw [eA]
    have hcv := run_str_of (P := Tryd.prog) (src := 24) (dst := 9) Tryd.underlying24 Tryd.underlying5 Tryd.underlying9 (c := cA) hrA rfl
    exact st_val rfl (by simp only [execOp]; first | (go_simp; done) | (go_simp; rfl)) rfl
  case refine_28 =>
    have v22 : vals 22 = .bool true := hd 22 (by kernel_rfl)
    rw [v22]
    exact st_val rfl (by simp only [execOp]; first | (go_simp; done) | (go_simp; rfl)) rfl
  case refine_29 =>
    have v22 : vals 22 = .bool true := hd 22 (by kernel_rfl)
    have v27 : vals 27 = .slice pT (cleanL l).length cT := hd 27 (by kernel_rfl)
    rw [v22, v27]
    have hcv := run_str_of (P := Tryd.prog) (src := 24) (dst := 9) Tryd.underlying24 Tryd.underlying5 Tryd.underlying9 (c := cT) (HRT.out.below hb0) rfl
    exact st_val rfl (by simp only [execOp]; first | (go_simp; done) | (go_simp; rfl)) rfl
  case refine_30 =>
    have v22 : vals 22 = .bool true := hd 22 (by kernel_rfl)
    have v26 : vals 26 = .string ⟨(cleanL l).toArray⟩ := hd 26 (by kernel_rfl)
    have v28 : vals 28 = .string ⟨(cleanL l).toArray⟩ := hd 28 (by kernel_rfl)
    rw [v22, v26, v28]
    have hse := beqD (cleanL l) (cleanL l)
    rw [decide_eq_true rfl] at hse
    exact st_val rfl (by simp only [execOp]; first | (go_simp; done) | (go_simp; rfl)) rfl
  case refine_31 =>
    have v22 : vals 22 = .bool true := hd 22 (by kernel_rfl)
    have v29 : vals 29 = .bool true := hd 29 (by kernel_rfl)
    rw [v22, v29]
    exact st_val rfl (by simp only [execOp]; first | (go_simp; done) | (go_simp; rfl)) rfl
  case refine_32 =>
    have v30 : vals 30 = .bool true := hd 30 (by omega)
    rw [v30]
    simp only [List.drop_succ_cons, List.drop_zero]
    have HO := hM
    clear hM hd hb0
    go_wp2
    go_ret
    exact ⟨rfl, HO.below⟩
end Go.Proofs.YtcglbfpmcpammaaDoor
end
