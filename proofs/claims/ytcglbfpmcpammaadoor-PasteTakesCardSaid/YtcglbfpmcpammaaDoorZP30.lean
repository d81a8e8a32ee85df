/- P: texts run together by shake.py: PuU PaI PaK PaL PaT. -/
import Derived.ArgAppend
import Derived.Below
import Derived.BigQuiet
import Derived.Deep.AppendLies
import Derived.Deep.CutBlock
import Derived.Deep.DeepCutAuto
import Derived.Deep.Draws
import Derived.Deep.LoopGhost
import Derived.Deep.OwnRows
import Derived.Deep.Quiet
import Derived.Deep.QuietTactic
import Derived.Deep.RegionHeld3
import Derived.KernelRfl
import Derived.Laws.AppendOwn
import Derived.Laws.AppendOwnNone
import Derived.Laws.BitsAllLaws
import Derived.Laws.BitsLemmas
import Derived.Laws.BytesArg
import Derived.Laws.Concat
import Derived.Laws.CopyRow
import Derived.Laws.IdiomCopy
import Derived.Laws.IdiomStrings
import Derived.Laws.MakeOwn
import Derived.Laws.OwnMore
import Derived.Laws.Rows
import Derived.Laws.Slices
import Derived.Laws.StructEq
import Derived.Laws.Tables
import Derived.Lib.AppendIntMem
import Derived.Lib.AppendStr
import Derived.Lib.AppendZeros
import Derived.Lib.Bytes
import Derived.Lib.ConvBytes
import Derived.Lib.Hide
import Derived.Lib.ItoaLen
import Derived.Lib.ItoaNum
import Derived.Lib.LaidTab
import Derived.Lib.OthersKept
import Derived.Lib.SliceRun
import Derived.Lib.TrimU
import Derived.LoopIn
import Derived.MapKept
import Derived.Maps.AppendAt
import Derived.Orders
import Derived.OrdersHeld
import Derived.OrdersIn
import Derived.OwnWalk
import Derived.RangeFuncCalls
import Derived.RangeFuncNested
import Derived.RangeFuncWrites
import Derived.RowKit
import Derived.RowKit3
import Derived.Shelf.Bytes.SlEqualAll
import Derived.Shelf.Bytes.SlSearch0
import Derived.Shelf.Bytes.SlSmallAll
import Derived.Shelf.Bytes.Small
import Derived.Shelf.LaysM
import Derived.Shelf.Slices.Empties2
import Derived.Shelf.Slices.Equal
import Derived.Shelf.Small.Strs
import Derived.Shelf.Small.Utf8
import Derived.Shelf.Strconv.Itoa0
import Derived.Shelf.Strconv.Itoa1
import Derived.Shelf.Strconv.Itoa2
import Derived.Shelf.Strconv.Itoa3
import Derived.Shelf.Strings.Builder1
import Derived.Shelf.Strings.Builder2
import Derived.Shelf.Strings.Builder2Cap
import Derived.Shelf.Strings.BuilderCap
import Derived.Shelf.Strings.BuilderF
import Derived.Shelf.Strings.BuilderK
import Derived.Shelf.Strings.OnBuilder
import Derived.Shelf.Strings.Runes
import Derived.Shelf.Strings.Search1
import Derived.Still
import Derived.Tactics
import Derived.TacticsIn
import Derived.Test.YtcglbfpmcpammaaDoorProg
import Derived.WalkKit
import Derived.WideLaws
import Derived.Test.YtcglbfpmcpammaaDoorZP1
import Derived.Test.YtcglbfpmcpammaaDoorZP2
import Derived.Test.YtcglbfpmcpammaaDoorZP3
import Derived.Test.YtcglbfpmcpammaaDoorZP4
import Derived.Test.YtcglbfpmcpammaaDoorZP5
import Derived.Test.YtcglbfpmcpammaaDoorZP6
import Derived.Test.YtcglbfpmcpammaaDoorZP7
import Derived.Test.YtcglbfpmcpammaaDoorZP8
import Derived.Test.YtcglbfpmcpammaaDoorZP9
import Derived.Test.YtcglbfpmcpammaaDoorZP10
import Derived.Test.YtcglbfpmcpammaaDoorZP11
import Derived.Test.YtcglbfpmcpammaaDoorZP13
import Derived.Test.YtcglbfpmcpammaaDoorZP14
import Derived.Test.YtcglbfpmcpammaaDoorZP16
import Derived.Test.YtcglbfpmcpammaaDoorZP19
section
namespace Go.Proofs.YtcglbfpmcpammaaDoor
set_option linter.unusedVariables false
set_option linter.unusedSimpArgs false
theorem spanU_nil : spanU [] = 0 := rfl
end Go.Proofs.YtcglbfpmcpammaaDoor
end
section
namespace Go.Proofs.YtcglbfpmcpammaaDoor
set_option linter.unusedVariables false
set_option linter.unusedSimpArgs false
open Go.RowKit Kit G Go.Proofs.YtcglbfpmcpammaaDoorW.PrintWords
attribute [local go_sem] Oper.semAt_some
theorem nil_take {r : List UInt8 × Nat × Bool} (h : r = ([], 0, false)) {w w' : World} (hb : Below w.heap.size w w') : TakeAns r w (.returned (.tuple #[.slice none 0 0, .int .i64 0, .bool false])) w' := by
  subst h
  exact ⟨⟨_, rfl, fRc_nil _⟩, hb⟩
attribute [local irreducible] wpList Calls wpQuiet
end Go.Proofs.YtcglbfpmcpammaaDoor
end
section
namespace Go.Proofs.YtcglbfpmcpammaaDoor
set_option linter.unusedVariables false
set_option linter.unusedSimpArgs false
open Go.RowKit Kit G Go.Proofs.YtcglbfpmcpammaaDoorW.PrintWords Go.Proofs.YtcglbfpmcpammaaDoorW.PrintMore
attribute [local irreducible] wpList Calls wpQuiet
theorem begins_calls (A : Option Addr) (a b : List UInt8) (ca : Nat) (hca : a.length ≤ ca) (w : World) (ha : Reads w A (a.map byV)) :
    Calls Tryd.prog 30 #[.slice A a.length ca, .string ⟨b.toArray⟩] w fun e w' => e = .returned (.bool (decide (a.take b.length = b))) ∧ Below w.heap.size w w' := by
  have HO := Mine.start w
  by_cases hl : b.length ≤ a.length
  · have hcv := fun (c : Nat) => run_str_of (P := Tryd.prog) (src := 24) (dst := 9) (c := c) (n := b.length) Tryd.underlying24 Tryd.underlying5 Tryd.underlying9 (rdTake ha b.length) (by rw [List.length_take]; omega)
    have hse := beqD (a.take b.length) b
    obtain ⟨r, hr⟩ : ∃ r, decide (a.take b.length = b) = r := ⟨_, rfl⟩
    rw [hr] at hse ⊢
    obtain ⟨m, hm⟩ : ∃ m, b.length = m := ⟨_, rfl⟩
    obtain ⟨n, hn⟩ : ∃ n, a.length = n := ⟨_, rfl⟩
    rw [hm] at hcv hse
    rw [hm, hn] at hl
    rw [hn] at hca
    rw [hn]
    have hm2 : b.toArray.size = m := by rw [List.size_toArray, hm]
    have hm3 : (⟨b.toArray⟩ : ByteArray).size = m := hm2
    have d1 : decide ((m : Int) ≤ (n : Int)) = true := decide_eq_true (by omega)
    have d2 : decide (m ≤ n) = true := decide_eq_true hl
    have d3 : decide ((m : Int) ≤ (ca : Int)) = true := decide_eq_true (by omega)
    have d4 : decide (m ≤ ca) = true := decide_eq_true (by omega)
    have d5 : ¬ ca < m := by omega
    clear ha hca hr hn
    go_enter Tryd.func30, Tryd.ntmps30
    go_wp2
    go_ret
    exact ⟨rfl, HO.below⟩
  · have hm3 : (⟨b.toArray⟩ : ByteArray).size = b.length := by show b.toArray.size = _; rw [List.size_toArray]
    have d1 : decide ((b.length : Int) ≤ (a.length : Int)) = false := decide_eq_false (by omega)
    have d2 : decide (b.length ≤ a.length) = false := decide_eq_false hl
    rw [decide_eq_false (take_ne hl)]
    clear ha hca
    go_enter Tryd.func30, Tryd.ntmps30
    go_wp2
    go_ret
    exact ⟨rfl, HO.below⟩
set_option maxRecDepth 100000 in
set_option maxHeartbeats 4000000 in
theorem refLooked_calls (A : Option Addr) (c : Nat) (l : List UInt8) (hc : l.length ≤ c) (w : World) (hr : Reads w A (l.map byV)) :
    Calls Tryd.prog 19 #[.slice A l.length c] w fun e w' => e = .returned (.tuple #[.bool (lookedL l).1, .bool (lookedL l).2]) ∧ Below w.heap.size w w' := by
  have HO := Mine.start w
  have hbi := fun W (hW : Below w.heap.size w W) => begins_calls A l inM c hc W (hr.below hW)
  have hbo := fun W (hW : Below w.heap.size w W) => begins_calls A l outM c hc W (hr.below hW)
  obtain ⟨a, ha⟩ : ∃ a, decide (l.take 3 = inM) = a := ⟨_, rfl⟩
  obtain ⟨b, hb⟩ : ∃ b, decide (l.take 3 = outM) = b := ⟨_, rfl⟩
  have e1 : decide (l.take inM.length = inM) = a := ha
  have e2 : decide (l.take outM.length = outM) = b := hb
  rw [e1] at hbi
  rw [e2] at hbo
  have HL : Hid (lookedL l = (a, a || b)) := Lib.hid (by unfold lookedL; rw [ha, hb])
  have HBI : Hid (∀ W, Below w.heap.size w W → Calls Tryd.prog 30 #[.slice A l.length c, .string ⟨#[27, 91, 73]⟩] W fun e w' => e = .returned (.bool a) ∧ Below W.heap.size W w') := Lib.hid hbi
  have HBO : Hid (∀ W, Below w.heap.size w W → Calls Tryd.prog 30 #[.slice A l.length c, .string ⟨#[27, 91, 79]⟩] W fun e w' => e = .returned (.bool b) ∧ Below W.heap.size W w') := Lib.hid hbo
  clear ha hb e1 e2 hbi hbo hr hc
  cases a
  · go_enter Tryd.func19, Tryd.ntmps19
    go_wp2_with (go_at_call 30; first | (refine (HBI.out _ HO.below).mono ?_; rintro eN wN ⟨rfl, hbN⟩; have HON := HO.call hbN; clear HO hbN; have HO := HON; clear HON) | (refine (HBO.out _ HO.below).mono ?_; rintro eN wN ⟨rfl, hbN⟩; have HON := HO.call hbN; clear HO hbN; have HO := HON; clear HON))
    refine bodyPost_ret (results_tmp2 rfl _ _ _) rfl ?_
    exact ⟨by rw [HL.out]; rfl, HO.below⟩
  · go_enter Tryd.func19, Tryd.ntmps19
    go_wp2_with (go_at_call 30; first | (refine (HBI.out _ HO.below).mono ?_; rintro eN wN ⟨rfl, hbN⟩; have HON := HO.call hbN; clear HO hbN; have HO := HON; clear HON) | (refine (HBO.out _ HO.below).mono ?_; rintro eN wN ⟨rfl, hbN⟩; have HON := HO.call hbN; clear HO hbN; have HO := HON; clear HON))
    refine bodyPost_ret (results_tmp2 rfl _ _ _) rfl ?_
    exact ⟨by rw [HL.out]; rfl, HO.below⟩
end Go.Proofs.YtcglbfpmcpammaaDoor
end
section
namespace Go.Proofs.YtcglbfpmcpammaaDoor
set_option linter.unusedVariables false
set_option linter.unusedSimpArgs false
open Go.RowKit Kit G Go.Proofs.YtcglbfpmcpammaaDoorW.PrintWords Go.Proofs.YtcglbfpmcpammaaDoorW.PrintMore
attribute [local irreducible] wpList Calls wpQuiet
set_option maxRecDepth 100000 in
set_option maxHeartbeats 8000000 in
theorem ref17TakeNo_calls (A : Option Addr) (c : Nat) (l : List UInt8) (hc : l.length ≤ c) (w : World) (hr : Reads w A (l.map byV)) (hp : ¬ l.take 6 = openM) : Calls Tryd.prog 17 #[.slice A l.length c] w (TakeAns (takeV l) w) := by
  have HO := Mine.start w
  have hbo := fun W (hW : Below w.heap.size w W) => begins_calls A l openM c hc W (hr.below hW)
  rw [decide_eq_false (show ¬ l.take openM.length = openM from hp)] at hbo
  have HBO : Hid (∀ W, Below w.heap.size w W → Calls Tryd.prog 30 #[.slice A l.length c, .string ⟨#[27, 91, 50, 48, 48, 126]⟩] W fun e w' => e = .returned (.bool false) ∧ Below W.heap.size W w') := Lib.hid hbo
  rw [takeV_no hp]
  clear hbo hr hc hp
  go_enter Tryd.func17, Tryd.ntmps17
  go_wp2_with (go_at_call 30; refine (HBO.out _ HO.below).mono ?_; rintro eN wN ⟨rfl, hbN⟩; have HON := HO.call hbN; clear HO hbN; have HO := HON; clear HON)
  refine bodyPost_ret (results_tmp3 rfl _ _ _) rfl ?_
  exact nil_take rfl HO.below
set_option maxRecDepth 100000 in
set_option maxHeartbeats 8000000 in
theorem ref17TakeYes_calls (b0 o0 : Nat) (c : Nat) (l : List UInt8) (hc : l.length ≤ c) (h5 : l.length ≤ 100000) (w : World) (hr : Reads w (some ⟨b0, o0, none⟩) (l.map byV)) (hp : l.take 6 = openM) : Calls Tryd.prog 17 #[.slice (some ⟨b0, o0, none⟩) l.length c] w (TakeAns (takeV l) w) := by
  have HO := Mine.start w
  have hbo := fun W (hW : Below w.heap.size w W) => begins_calls (some ⟨b0, o0, none⟩) l openM c hc W (hr.below hW)
  rw [decide_eq_true (show l.take openM.length = openM from hp)] at hbo
  have HBO : Hid (∀ W, Below w.heap.size w W → Calls Tryd.prog 30 #[.slice (some ⟨b0, o0, none⟩) l.length c, .string ⟨#[27, 91, 50, 48, 48, 126]⟩] W fun e w' => e = .returned (.bool true) ∧ Below W.heap.size W w') := Lib.hid hbo
  have hl6 : 6 ≤ l.length := by
    have := congrArg List.length hp
    rw [List.length_take] at this
    have h6 : openM.length = 6 := rfl
    omega
  obtain ⟨rest, hrest⟩ : ∃ rest, l.drop 6 = rest := ⟨_, rfl⟩
  obtain ⟨V, hVV⟩ : ∃ V, takeV l = V := ⟨_, rfl⟩
  have hyes : ∀ {n : Nat}, spanU rest = n → (rest.drop n).take 6 = shutM → V = (rest.take n, n + 12, true) := fun hn h => by rw [← hVV, takeV_yes hp hrest hn, if_pos h]
  have hno : ∀ {n : Nat}, spanU rest = n → ¬ (rest.drop n).take 6 = shutM → V = ([], 0, false) := fun hn h => by rw [← hVV, takeV_yes hp hrest hn, if_neg h]
  obtain ⟨m, hm⟩ : ∃ m, l.length = m := ⟨_, rfl⟩
  have hrl : rest.length = m - 6 := by rw [← hrest, List.length_drop, hm]
  rw [hVV]
  have HYES : Hid (∀ {n : Nat}, spanU rest = n → (rest.drop n).take 6 = shutM → V = (rest.take n, n + 12, true)) := Lib.hid hyes
  have HNO : Hid (∀ {n : Nat}, spanU rest = n → ¬ (rest.drop n).take 6 = shutM → V = ([], 0, false)) := Lib.hid hno
  have HR := Lib.hid hr
  have HRE := Lib.hid hrest
  have HRL := Lib.hid hrl
  have HM := Lib.hid hm
  rw [hm] at HBO hc h5 hl6 ⊢
  clear hr hbo hp hyes hno hVV hrest hrl
  have g1 : ¬ c < 6 := by omega
  go_enter Tryd.func17, Tryd.ntmps17
  go_wp2_with (go_at_call 30; refine (HBO.out _ HO.below).mono ?_; rintro eN wN ⟨rfl, hbN⟩; have HON := HO.call hbN; clear HO hbN; have HO := HON; clear HON)
  go_loopw [5] (fun i wr => ∃ k : Nat, 6 ≤ k ∧ k ≤ m ∧ i = .int .i64 k ∧ spanU rest = (k - 6) + spanU (l.drop k) ∧ Mine w wr []) (fun i _ => m - (intOf i).toNat)
  case atStart => exact ⟨6, Nat.le_refl _, hl6, rfl, by rw [HRE.out]; simp, HO⟩
  case round =>
    obtain ⟨k, hk6, hk, rfl, hsp, HO2⟩ := hrel
    clear HO
    have HO := HO2
    clear HO2
    have d2 : k ≤ m := hk
    have d3 : ¬ m < k := by omega
    have d4 : ¬ c < k := by omega
    have d6 : m ≤ c := hc
    have d7 : ¬ c < m := by omega
    have d8 : ¬ k < 6 := by omega
    have d9 : m ≤ 100000 := h5
    have d10 : ¬ m < 6 := by omega
    by_cases hlt : k < m
    · obtain ⟨x, hx⟩ : ∃ x, l.drop k = x := ⟨_, rfl⟩
      have hxl : x.length = m - k := by rw [← hx, List.length_drop, hm]
      have hne : x ≠ [] := fun e => by rw [e] at hxl; simp at hxl; omega
      rw [hx, spanU_cons hne] at hsp
      obtain ⟨⟨r, t⟩, ht⟩ : ∃ t, takeU x = t := ⟨_, rfl⟩
      rw [ht] at hsp
      have hts := takeU_spec ht
      have hdx : l.drop (k + t) = x.drop t := by rw [← hx, List.drop_drop]
      have htk := fun W (hW : Below w.heap.size w W) => refTake_calls (some ⟨b0, o0 + k, none⟩) (c - k) x (by omega) (by omega) W (by rw [← hx]; exact rdDrop (HR.out.below hW) k)
      rw [ht, hxl] at htk
      have HTK := Lib.hid htk
      have HCR := Lib.hid (refClean1_calls r)
      have d11 : k < m := hlt
      have d12 : decide (k < m) = true := decide_eq_true hlt
      have d13 : decide ((k : Int) < (m : Int)) = true := decide_eq_true (by omega)
      have d14 : ¬ c = k := by omega
      have d15 : t ≤ m - k := by omega
      by_cases ht0 : t = 0
      · subst ht0
        have hn : spanU rest = k - 6 := by rw [hsp]; simp
        clear htk hxl hne ht hts hdx hx
        have hdr : l.drop k = rest.drop (k - 6) := by rw [← HRE.out, List.drop_drop]; congr 1; omega
        obtain ⟨d, hd0⟩ : ∃ d, decide ((rest.drop (k - 6)).take 6 = shutM) = d := ⟨_, rfl⟩
        have HD := Lib.hid hd0
        have HV1 := Lib.hid (HYES.out hn)
        have HV0 := Lib.hid (HNO.out hn)
        have hlk : (l.drop k).length = m - k := by rw [List.length_drop, hm]
        have hbg := fun (p : Option Addr) (cc : Nat) (hcc : m - k ≤ cc) W (hrW : Reads W p ((l.drop k).map byV)) => begins_calls p (l.drop k) shutM cc (by rw [hlk]; exact hcc) W hrW
        rw [hlk, hdr, show shutM.length = 6 from rfl, hd0] at hbg
        have e4 : IntKind.i64.wrap ((k : Int) + 6) = (k : Int) + 6 := by rw [IntKind.wrap_i64]; omega
        by_cases hck : c = k
        · exact absurd hck d14
        · have HBS : Hid (∀ W, Below w.heap.size w W → Calls Tryd.prog 30 #[.slice (some ⟨b0, o0 + k, none⟩) (m - k) (c - k), .string ⟨#[27, 91, 50, 48, 49, 126]⟩] W fun e w' => e = .returned (.bool d) ∧ Below W.heap.size W w') := Lib.hid fun W hW => hbg (some ⟨b0, o0 + k, none⟩) (c - k) (by omega) W (by rw [← hdr]; exact rdDrop (HR.out.below hW) k)
          have hc6 : d = true → ¬ c = 6 ∧ 6 ≤ c := fun h => by
            rw [h] at hd0
            have := congrArg List.length (of_decide_eq_true hd0)
            rw [List.length_take, ← hdr, hlk] at this
            have h6 : shutM.length = 6 := rfl
            omega
          clear hbg hlk hdr hd0 hn
          cases d
          · clear hc6
            go_wp2_with (first
            | (go_at_call 22; refine (HTK.out _ HO.below).mono ?_; rintro eN wN ⟨rfl, hbN⟩; have HON := HO.call hbN; clear HO hbN; have HO := HON; clear HON)
            | (go_at_call 30; refine (HBS.out _ HO.below).mono ?_; rintro eN wN ⟨rfl, hbN⟩; have HON := HO.call hbN; clear HO hbN; have HO := HON; clear HON))
            refine bodyPost_ret (results_tmp3 rfl _ _ _) rfl ?_
            exact nil_take (HV0.out (of_decide_eq_false HD.out)) HO.below
          · obtain ⟨f1, f2⟩ := hc6 rfl
            clear hc6
            go_wp2_with (first
            | (go_at_call 22; refine (HTK.out _ HO.below).mono ?_; rintro eN wN ⟨rfl, hbN⟩; have HON := HO.call hbN; clear HO hbN; have HO := HON; clear HON)
            | (go_at_call 30; refine (HBS.out _ HO.below).mono ?_; rintro eN wN ⟨rfl, hbN⟩; have HON := HO.call hbN; clear HO hbN; have HO := HON; clear HON))
            refine bodyPost_ret (results_tmp3 rfl _ _ _) rfl ?_
            rw [HV1.out (of_decide_eq_true HD.out)]
            have hkc : k ≤ m := d2
            refine ⟨⟨.slice (some ⟨b0, o0 + 6, none⟩) (k - 6) (c - 6), ?_, some ⟨b0, o0 + 6, none⟩, c - 6, ?_, ?_, ?_⟩, HO.below⟩
            · have e5 : ((k - 6 + 12 : Nat) : Int) = (k : Int) + 6 := by omega
              rw [e5]
              rfl
            · rw [List.length_take, HRL.out]; congr 1; omega
            · rw [List.length_take, HRL.out]; omega
            · rw [← HRE.out]; exact rdTake (rdDrop (HR.out.below HO.below) 6) (k - 6)
      · have b1 : ((t : Int) == 0) = false := beq_eq_false_iff_ne.2 (by omega)
        have b2 : ¬ t = 0 := ht0
        cases hcr : cleanR r with
        | true =>
          rw [hcr] at HCR
          have hst : spanU rest = (k + t - 6) + spanU (l.drop (k + t)) := by
            rw [hdx, hsp, hcr]
            simp only [decide_eq_true (show 0 < t by omega), Bool.and_self, if_true]
            omega
          have HST := Lib.hid hst
          have u1 : IntKind.i64.wrap ((k : Int) + (t : Int)) = (k : Int) + (t : Int) := by rw [IntKind.wrap_i64]; omega
          have u2 : t ≤ 100000 := by omega
          clear htk hxl hne ht hts hdx hx hst hsp hcr
          go_wp2_with (first
            | (go_at_call 22; refine (HTK.out _ HO.below).mono ?_; rintro eN wN ⟨rfl, hbN⟩; have HON := HO.call hbN; clear HO hbN; have HO := HON; clear HON)
            | (go_at_call 23; refine (HCR.out _).mono ?_; rintro eN wN ⟨rfl, hbN⟩; have HON := HO.call hbN; clear HO hbN; have HO := HON; clear HON))
          go_roundw
          case rel => exact ⟨k + t, by omega, by omega, by go_num, HST.out, HO⟩
          case measure => simp [intOf]; try omega
        | false =>
          rw [hcr] at HCR
          have hn : spanU rest = k - 6 := by rw [hsp, hcr]; simp
          clear htk hxl hne ht hts hdx hx hsp hcr
          have hdr : l.drop k = rest.drop (k - 6) := by rw [← HRE.out, List.drop_drop]; congr 1; omega
          obtain ⟨d, hd0⟩ : ∃ d, decide ((rest.drop (k - 6)).take 6 = shutM) = d := ⟨_, rfl⟩
          have HD := Lib.hid hd0
          have HV1 := Lib.hid (HYES.out hn)
          have HV0 := Lib.hid (HNO.out hn)
          have hlk : (l.drop k).length = m - k := by rw [List.length_drop, hm]
          have hbg := fun (p : Option Addr) (cc : Nat) (hcc : m - k ≤ cc) W (hrW : Reads W p ((l.drop k).map byV)) => begins_calls p (l.drop k) shutM cc (by rw [hlk]; exact hcc) W hrW
          rw [hlk, hdr, show shutM.length = 6 from rfl, hd0] at hbg
          have e4 : IntKind.i64.wrap ((k : Int) + 6) = (k : Int) + 6 := by rw [IntKind.wrap_i64]; omega
          by_cases hck : c = k
          · exact absurd hck d14
          · have HBS : Hid (∀ W, Below w.heap.size w W → Calls Tryd.prog 30 #[.slice (some ⟨b0, o0 + k, none⟩) (m - k) (c - k), .string ⟨#[27, 91, 50, 48, 49, 126]⟩] W fun e w' => e = .returned (.bool d) ∧ Below W.heap.size W w') := Lib.hid fun W hW => hbg (some ⟨b0, o0 + k, none⟩) (c - k) (by omega) W (by rw [← hdr]; exact rdDrop (HR.out.below hW) k)
            have hc6 : d = true → ¬ c = 6 ∧ 6 ≤ c := fun h => by
              rw [h] at hd0
              have := congrArg List.length (of_decide_eq_true hd0)
              rw [List.length_take, ← hdr, hlk] at this
              have h6 : shutM.length = 6 := rfl
              omega
            clear hbg hlk hdr hd0 hn
            cases d
            · clear hc6
              go_wp2_with (first
            | (go_at_call 22; refine (HTK.out _ HO.below).mono ?_; rintro eN wN ⟨rfl, hbN⟩; have HON := HO.call hbN; clear HO hbN; have HO := HON; clear HON)
            | (go_at_call 23; refine (HCR.out _).mono ?_; rintro eN wN ⟨rfl, hbN⟩; have HON := HO.call hbN; clear HO hbN; have HO := HON; clear HON)
            | (go_at_call 30; refine (HBS.out _ HO.below).mono ?_; rintro eN wN ⟨rfl, hbN⟩; have HON := HO.call hbN; clear HO hbN; have HO := HON; clear HON))
              refine bodyPost_ret (results_tmp3 rfl _ _ _) rfl ?_
              exact nil_take (HV0.out (of_decide_eq_false HD.out)) HO.below
            · obtain ⟨f1, f2⟩ := hc6 rfl
              clear hc6
              go_wp2_with (first
            | (go_at_call 22; refine (HTK.out _ HO.below).mono ?_; rintro eN wN ⟨rfl, hbN⟩; have HON := HO.call hbN; clear HO hbN; have HO := HON; clear HON)
            | (go_at_call 23; refine (HCR.out _).mono ?_; rintro eN wN ⟨rfl, hbN⟩; have HON := HO.call hbN; clear HO hbN; have HO := HON; clear HON)
            | (go_at_call 30; refine (HBS.out _ HO.below).mono ?_; rintro eN wN ⟨rfl, hbN⟩; have HON := HO.call hbN; clear HO hbN; have HO := HON; clear HON))
              refine bodyPost_ret (results_tmp3 rfl _ _ _) rfl ?_
              rw [HV1.out (of_decide_eq_true HD.out)]
              have hkc : k ≤ m := d2
              refine ⟨⟨.slice (some ⟨b0, o0 + 6, none⟩) (k - 6) (c - 6), ?_, some ⟨b0, o0 + 6, none⟩, c - 6, ?_, ?_, ?_⟩, HO.below⟩
              · have e5 : ((k - 6 + 12 : Nat) : Int) = (k : Int) + 6 := by omega
                rw [e5]
                rfl
              · rw [List.length_take, HRL.out]; congr 1; omega
              · rw [List.length_take, HRL.out]; omega
              · rw [← HRE.out]; exact rdTake (rdDrop (HR.out.below HO.below) 6) (k - 6)
    · have d13 : decide ((k : Int) < (m : Int)) = false := decide_eq_false (by omega)
      have d14 : ¬ k < m := hlt
      have hn : spanU rest = k - 6 := by
        rw [hsp, List.drop_eq_nil_of_le (by omega), spanU_nil, Nat.add_zero]
      clear hsp
      have hdr : l.drop k = rest.drop (k - 6) := by rw [← HRE.out, List.drop_drop]; congr 1; omega
      obtain ⟨d, hd0⟩ : ∃ d, decide ((rest.drop (k - 6)).take 6 = shutM) = d := ⟨_, rfl⟩
      have HD := Lib.hid hd0
      have HV1 := Lib.hid (HYES.out hn)
      have HV0 := Lib.hid (HNO.out hn)
      have hlk : (l.drop k).length = m - k := by rw [List.length_drop, hm]
      have hbg := fun (p : Option Addr) (cc : Nat) (hcc : m - k ≤ cc) W (hrW : Reads W p ((l.drop k).map byV)) => begins_calls p (l.drop k) shutM cc (by rw [hlk]; exact hcc) W hrW
      rw [hlk, hdr, show shutM.length = 6 from rfl, hd0] at hbg
      have e4 : IntKind.i64.wrap ((k : Int) + 6) = (k : Int) + 6 := by rw [IntKind.wrap_i64]; omega
      by_cases hck : c = k
      · have hdn : rest.drop (k - 6) = [] := by rw [← hdr]; exact List.drop_eq_nil_of_le (by omega)
        have HBS : Hid (∀ W, Below w.heap.size w W → Calls Tryd.prog 30 #[.slice (some ⟨b0, o0, none⟩) (m - k) 0, .string ⟨#[27, 91, 50, 48, 49, 126]⟩] W fun e w' => e = .returned (.bool d) ∧ Below W.heap.size W w') := Lib.hid fun W hW => hbg (some ⟨b0, o0, none⟩) 0 (by omega) W (by rw [hdn]; exact Reads.nil _ _)
        obtain rfl : d = false := by rw [← hd0, hdn]; rfl
        clear hbg hlk hdr hd0 hdn hn
        go_wp2_with (go_at_call 30; refine (HBS.out _ HO.below).mono ?_; rintro eN wN ⟨rfl, hbN⟩; have HON := HO.call hbN; clear HO hbN; have HO := HON; clear HON)
        refine bodyPost_ret (results_tmp3 rfl _ _ _) rfl ?_
        exact nil_take (HV0.out (of_decide_eq_false HD.out)) HO.below
      · have HBS : Hid (∀ W, Below w.heap.size w W → Calls Tryd.prog 30 #[.slice (some ⟨b0, o0 + k, none⟩) (m - k) (c - k), .string ⟨#[27, 91, 50, 48, 49, 126]⟩] W fun e w' => e = .returned (.bool d) ∧ Below W.heap.size W w') := Lib.hid fun W hW => hbg (some ⟨b0, o0 + k, none⟩) (c - k) (by omega) W (by rw [← hdr]; exact rdDrop (HR.out.below hW) k)
        have hc6 : d = true → ¬ c = 6 ∧ 6 ≤ c := fun h => by
          rw [h] at hd0
          have := congrArg List.length (of_decide_eq_true hd0)
          rw [List.length_take, ← hdr, hlk] at this
          have h6 : shutM.length = 6 := rfl
          omega
        clear hbg hlk hdr hd0 hn
        cases d
        · clear hc6
          go_wp2_with (go_at_call 30; refine (HBS.out _ HO.below).mono ?_; rintro eN wN ⟨rfl, hbN⟩; have HON := HO.call hbN; clear HO hbN; have HO := HON; clear HON)
          refine bodyPost_ret (results_tmp3 rfl _ _ _) rfl ?_
          exact nil_take (HV0.out (of_decide_eq_false HD.out)) HO.below
        · obtain ⟨f1, f2⟩ := hc6 rfl
          clear hc6
          go_wp2_with (go_at_call 30; refine (HBS.out _ HO.below).mono ?_; rintro eN wN ⟨rfl, hbN⟩; have HON := HO.call hbN; clear HO hbN; have HO := HON; clear HON)
          refine bodyPost_ret (results_tmp3 rfl _ _ _) rfl ?_
          rw [HV1.out (of_decide_eq_true HD.out)]
          have hkc : k ≤ m := d2
          refine ⟨⟨.slice (some ⟨b0, o0 + 6, none⟩) (k - 6) (c - 6), ?_, some ⟨b0, o0 + 6, none⟩, c - 6, ?_, ?_, ?_⟩, HO.below⟩
          · have e5 : ((k - 6 + 12 : Nat) : Int) = (k : Int) + 6 := by omega
            rw [e5]
            rfl
          · rw [List.length_take, HRL.out]; congr 1; omega
          · rw [List.length_take, HRL.out]; omega
          · rw [← HRE.out]; exact rdTake (rdDrop (HR.out.below HO.below) 6) (k - 6)
end Go.Proofs.YtcglbfpmcpammaaDoor
end
section
namespace Go.Proofs.YtcglbfpmcpammaaDoor
set_option linter.unusedVariables false
set_option linter.unusedSimpArgs false
open Go.RowKit Kit G Go.Proofs.YtcglbfpmcpammaaDoorW.PrintWords Go.Proofs.YtcglbfpmcpammaaDoorW.PrintMore
theorem ref17Take_calls (A : Option Addr) (c : Nat) (l : List UInt8) (hc : l.length ≤ c) (h5 : l.length ≤ 100000) (w : World) (hr : Reads w A (l.map byV)) : Calls Tryd.prog 17 #[.slice A l.length c] w (TakeAns (takeV l) w) := by
  by_cases hp : l.take 6 = openM
  · obtain ⟨b0, o0, h⟩ := slice_at hr
    rcases h with rfl | rfl
    · exact absurd hp (by decide)
    · exact ref17TakeYes_calls b0 o0 c l hc h5 w hr hp
  · exact ref17TakeNo_calls A c l hc w hr hp
attribute [local irreducible] wpList Calls wpQuiet
set_option maxRecDepth 100000 in
set_option maxHeartbeats 8000000 in
theorem pasteTakes_calls (A : Option Addr) (n c : Nat) (l : List UInt8) (hl : l.length = n) (hc : n ≤ c) (w : World) (hT : Tab w) (hr : Reads w A (l.map byV)) : Calls Tryd.prog 4 #[.slice A n c] w fun e w' => e = .returned (.bool true) ∧ Below w.heap.size w w' := by
  subst hl
  have HO := Mine.start w
  have HT := Lib.hid fun W (hW : Below w.heap.size w W) => Tab.below hT hW
  by_cases h300 : 300 < l.length
  · have d1 : decide ((300 : Int) < (l.length : Int)) = true := decide_eq_true (by omega)
    have d2 : decide (300 < l.length) = true := decide_eq_true h300
    clear hT hr hc
    go_enter Tryd.func4, Tryd.ntmps4
    go_wp2_with (go_at_call 9; refine (awake17_calls _ (HT.out _ HO.below)).mono ?_; rintro eN wN ⟨rfl, hbN⟩; have HON := HO.call hbN; clear HO hbN; have HO := HON; clear HON)
    go_ret
    exact ⟨rfl, HO.below⟩
  · have hta := fun W (hW : Below w.heap.size w W) => pasteTake_calls A c l hc (by omega) W (HT.out W hW) (hr.below hW)
    have htb := fun W (hW : Below w.heap.size w W) => ref17Take_calls A c l hc (by omega) W (hr.below hW)
    have hla := fun W (hW : Below w.heap.size w W) => looked_calls A c l hc W (HT.out W hW) (hr.below hW)
    have hlb := fun W (hW : Below w.heap.size w W) => refLooked_calls A c l hc W (hr.below hW)
    obtain ⟨⟨vp, vn, vi⟩, hV⟩ : ∃ V, takeV l = V := ⟨_, rfl⟩
    obtain ⟨⟨ka, kb⟩, hK⟩ : ∃ V, lookedL l = V := ⟨_, rfl⟩
    rw [hV] at hta htb
    rw [hK] at hla hlb
    obtain ⟨m, hm⟩ : ∃ m, l.length = m := ⟨_, rfl⟩
    rw [hm] at hta htb hla hlb h300 ⊢
    have HTA := Lib.hid hta
    have HTB := Lib.hid htb
    have HLA := Lib.hid hla
    have HLB := Lib.hid hlb
    have hse := beqD vp vp
    rw [decide_eq_true rfl] at hse
    have d1 : decide ((300 : Int) < (m : Int)) = false := decide_eq_false (by omega)
    have d2 : ¬ 300 < m := h300
    clear hta htb hla hlb hV hK hT hr hc hm
    go_enter Tryd.func4, Tryd.ntmps4
    go_wp2_with (first
      | (go_at_call 9; refine (awake17_calls _ (HT.out _ HO.below)).mono ?_; rintro eN wN ⟨rfl, hbN⟩; have HON := HO.call hbN; clear HO hbN; have HO := HON; clear HON)
      | (go_at_call 16; refine (HTA.out _ HO.below).mono ?_; unfold TakeAns; rintro eN wN ⟨⟨v, rfl, pT, cT, rfl, hcT, hrT⟩, hbN⟩; have HRT := Lib.hid hrT; clear hrT hcT; have HON := HO.call hbN; clear HO hbN; have HO := HON; clear HON)
      | (go_at_call 17; refine (HTB.out _ HO.below).mono ?_; unfold TakeAns; rintro eN wN ⟨⟨v, rfl, pU, cU, rfl, hcU, hrU⟩, hbN⟩; have HRU := Lib.hid hrU; clear hrU hcU; (try (have HRT2 := Lib.hid (HRT.out.below hbN); clear HRT; have HRT := HRT2; clear HRT2)); have HON := HO.call hbN; clear HO hbN; have HO := HON; clear HON)
      | (go_at_call 18; refine (HLA.out _ HO.below).mono ?_; rintro eN wN ⟨rfl, hbN⟩; (try (have HRT2 := Lib.hid (HRT.out.below hbN); clear HRT; have HRT := HRT2; clear HRT2)); (try (have HRU2 := Lib.hid (HRU.out.below hbN); clear HRU; have HRU := HRU2; clear HRU2)); have HON := HO.call hbN; clear HO hbN; have HO := HON; clear HON)
      | (go_at_call 19; refine (HLB.out _ HO.below).mono ?_; rintro eN wN ⟨rfl, hbN⟩; have hcv1 := run_str_of (P := Tryd.prog) (src := 24) (dst := 9) Tryd.underlying24 Tryd.underlying5 Tryd.underlying9  (c := cT) (HRT.out.below hbN) rfl; have hcv2 := run_str_of (P := Tryd.prog) (src := 24) (dst := 9) Tryd.underlying24 Tryd.underlying5 Tryd.underlying9  (c := cU) (HRU.out.below hbN) rfl; have HON := HO.call hbN; clear HO hbN; have HO := HON; clear HON))
    go_ret
    exact ⟨by simp, HO.below⟩
end Go.Proofs.YtcglbfpmcpammaaDoor
end
