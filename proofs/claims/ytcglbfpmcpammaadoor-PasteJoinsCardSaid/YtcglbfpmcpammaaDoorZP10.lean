/- P: texts run together by shake.py: PaI. -/
import Derived.ArgAppend
import Derived.Below
import Derived.BigQuiet
import Derived.Deep.AppendLies
import Derived.Deep.CutBlock
import Derived.Deep.DeepCutAuto
import Derived.Deep.Draws
import Derived.Deep.LoopGhost
import Derived.Deep.OwnRows
import Derived.Deep.Quiet
import Derived.Deep.QuietTactic
import Derived.Deep.RegionHeld3
import Derived.KernelRfl
import Derived.Laws.AppendOwn
import Derived.Laws.AppendOwnNone
import Derived.Laws.BitsAllLaws
import Derived.Laws.BitsLemmas
import Derived.Laws.BytesArg
import Derived.Laws.Concat
import Derived.Laws.CopyRow
import Derived.Laws.IdiomCopy
import Derived.Laws.IdiomStrings
import Derived.Laws.MakeOwn
import Derived.Laws.OwnMore
import Derived.Laws.Rows
import Derived.Laws.Slices
import Derived.Laws.StructEq
import Derived.Laws.Tables
import Derived.Lib.AppendIntMem
import Derived.Lib.AppendStr
import Derived.Lib.AppendZeros
import Derived.Lib.Bytes
import Derived.Lib.ConvBytes
import Derived.Lib.Hide
import Derived.Lib.ItoaLen
import Derived.Lib.ItoaNum
import Derived.Lib.LaidTab
import Derived.Lib.OthersKept
import Derived.Lib.SliceRun
import Derived.Lib.TrimU
import Derived.LoopIn
import Derived.MapKept
import Derived.Maps.AppendAt
import Derived.Orders
import Derived.OrdersHeld
import Derived.OrdersIn
import Derived.OwnWalk
import Derived.RangeFuncCalls
import Derived.RangeFuncNested
import Derived.RangeFuncWrites
import Derived.RowKit
import Derived.RowKit3
import Derived.Shelf.Bytes.SlEqualAll
import Derived.Shelf.Bytes.SlSearch0
import Derived.Shelf.Bytes.SlSmallAll
import Derived.Shelf.Bytes.Small
import Derived.Shelf.LaysM
import Derived.Shelf.Slices.Empties2
import Derived.Shelf.Slices.Equal
import Derived.Shelf.Small.Strs
import Derived.Shelf.Small.Utf8
import Derived.Shelf.Strconv.Itoa0
import Derived.Shelf.Strconv.Itoa1
import Derived.Shelf.Strconv.Itoa2
import Derived.Shelf.Strconv.Itoa3
import Derived.Shelf.Strings.Builder1
import Derived.Shelf.Strings.Builder2
import Derived.Shelf.Strings.Builder2Cap
import Derived.Shelf.Strings.BuilderCap
import Derived.Shelf.Strings.BuilderF
import Derived.Shelf.Strings.BuilderK
import Derived.Shelf.Strings.OnBuilder
import Derived.Shelf.Strings.Runes
import Derived.Shelf.Strings.Search1
import Derived.Still
import Derived.Tactics
import Derived.TacticsIn
import Derived.Test.YtcglbfpmcpammaaDoorProg
import Derived.WalkKit
import Derived.WideLaws
import Derived.Test.YtcglbfpmcpammaaDoorZP1
import Derived.Test.YtcglbfpmcpammaaDoorZP2
import Derived.Test.YtcglbfpmcpammaaDoorZP3
import Derived.Test.YtcglbfpmcpammaaDoorZP4
import Derived.Test.YtcglbfpmcpammaaDoorZP5
import Derived.Test.YtcglbfpmcpammaaDoorZP6
import Derived.Test.YtcglbfpmcpammaaDoorZP7
import Derived.Test.YtcglbfpmcpammaaDoorZP8
import Derived.Test.YtcglbfpmcpammaaDoorZP9
section
namespace Go.Proofs.YtcglbfpmcpammaaDoor
set_option linter.unusedVariables false
set_option linter.unusedSimpArgs false
open Go.RowKit Kit G Go.Proofs.YtcglbfpmcpammaaDoorW.PrintWords
attribute [local go_sem] Oper.semAt_some
def takeV (l : List UInt8) : List UInt8 × Nat × Bool := match takeP l with
  | none => ([], 0, false)
  | some (p, n) => (p, n, true)
def TakeAns (r : List UInt8 × Nat × Bool) (w : World) (e : Ending) (w' : World) : Prop := (∃ v, e = .returned (.tuple #[v, .int .i64 (r.2.1 : Int), .bool r.2.2]) ∧ fRc r.1 v w') ∧ Below w.heap.size w w'
def TakeAnsG (r : List UInt8 × Nat × Bool) (w : World) (e : Ending) (w' : World) : Prop := ∃ v R, e = .returned (.tuple #[v, .int .i64 (r.2.1 : Int), .bool r.2.2]) ∧ GRow 5 v (r.1.map byV) R ∧ Mine w w' R
theorem TakeAnsG.ans {r : List UInt8 × Nat × Bool} {w w' : World} {e : Ending} (h : TakeAnsG r w e w') : TakeAns r w e w' := by
  obtain ⟨v, R, h1, h2, h3⟩ := h
  exact ⟨⟨v, h1, fRc_of h2 h3⟩, h3.below⟩
theorem takeV_yes {l rest : List UInt8} {n : Nat} (h : l.take 6 = openM) (hr : l.drop 6 = rest) (hn : spanU rest = n) : takeV l = if (rest.drop n).take 6 = shutM then (rest.take n, n + 12, true) else ([], 0, false) := by
  unfold takeV takeP
  rw [if_pos h, hr, hn]
  by_cases hs : (rest.drop n).take 6 = shutM
  · rw [if_pos hs, if_pos hs]
  · rw [if_neg hs, if_neg hs]
theorem spanOf_flat : ∀ p : List (List UInt8 × Bool), spanOf p ≤ (p.flatMap (·.1)).length
  | [] => Nat.le_refl _
  | (c, b) :: t => by
    have := spanOf_flat t
    unfold spanOf
    rw [List.flatMap_cons, List.length_append]
    split
    · show c.length + spanOf t ≤ c.length + (t.flatMap (·.1)).length
      omega
    · exact Nat.zero_le _
theorem nil_takeG {r : List UInt8 × Nat × Bool} (h : r = ([], 0, false)) {w w' : World} (hb : Below w.heap.size w w') : TakeAnsG r w (.returned (.tuple #[.slice none 0 0, .int .i64 0, .bool false])) w' := by
  subst h
  exact ⟨_, [], rfl, GRow.nil _, ⟨hb, List.nodup_nil, by simp⟩⟩
attribute [local irreducible] wpList Calls wpQuiet
set_option maxRecDepth 100000 in
set_option maxHeartbeats 8000000 in
theorem takeYesG_calls (b0 o0 : Nat) (c : Nat) (l : List UInt8) (hc : l.length ≤ c) (h5 : l.length ≤ 100000) (w : World) (hT : Tab w) (hr : Reads w (some ⟨b0, o0, none⟩) (l.map byV)) (hp : l.take 6 = openM) :
    Calls Tryd.prog 16 #[.slice (some ⟨b0, o0, none⟩) l.length c] w (TakeAnsG (takeV l) w) := by
  refine (callsIn_wide (n := 5)).1 ?_
  have HO := Mine.start w
  have HMK := Lib.hid fun W (hW : Below w.heap.size w W) => open_calls W (Tab.below hT hW)
  have HMS := Lib.hid fun W (hW : Below w.heap.size w W) => shut_calls W (Tab.below hT hW)
  have HR := Lib.hid hr
  have HCC := Lib.hid (show l.length ≤ c ∧ l.length ≤ 4611686018427387904 from ⟨hc, by omega⟩)
  have HPX : Hid (l.take openM.length = openM) := Lib.hid hp
  have hl6 : 6 ≤ l.length := by
    have := congrArg List.length hp
    rw [List.length_take] at this
    have h6 : openM.length = 6 := rfl
    omega
  obtain ⟨rest, hrest⟩ : ∃ rest, l.drop 6 = rest := ⟨_, rfl⟩
  obtain ⟨n, hn⟩ : ∃ n, spanU rest = n := ⟨_, rfl⟩
  have hV := takeV_yes hp hrest hn
  have hnl : n ≤ rest.length := by rw [← hn]; exact spanU_le rest
  obtain ⟨m, hm⟩ : ∃ m, rest.length = m := ⟨_, rfl⟩
  obtain ⟨C, hC⟩ : ∃ C, c - 6 = C := ⟨_, rfl⟩
  have hml : m = l.length - 6 := by rw [← hm, ← hrest, List.length_drop]
  have HF := Lib.hid (show n ≤ m ∧ m + 6 = l.length ∧ m ≤ C ∧ l.length ≤ 100000 ∧ rest.length = m ∧ C = c - 6 ∧ spanOf (pointsL rest) = n from ⟨by omega, by omega, by omega, h5, hm, hC.symm, by rw [← spanU_of, hn]⟩)
  have HRE := Lib.hid hrest
  have hyes : (rest.drop n).take 6 = shutM → takeV l = (rest.take n, n + 12, true) := fun h => by rw [hV, if_pos h]
  have hno : ¬ (rest.drop n).take 6 = shutM → takeV l = ([], 0, false) := fun h => by rw [hV, if_neg h]
  obtain ⟨V, hVV⟩ : ∃ V, takeV l = V := ⟨_, rfl⟩
  rw [hVV] at hyes hno ⊢
  have HYES := Lib.hid hyes
  have HNO := Lib.hid hno
  clear hr hc h5 hp hT hV hnl hn hrest hl6 hyes hno hVV
  refine callsIn_of_wp_marks Tryd.func16 rfl trivial ?_ rfl
  simp only [Tryd.ntmps16, List.size_toArray, List.length_cons, List.length_nil, Nat.reduceAdd, Nat.reduceSub, Array.replicate_succ, Array.replicate_zero, List.push_toArray, List.append_toArray, List.nil_append, List.cons_append]
  refine wpIn_seq ?_
  refine wideRegion ?_
  go_wp2
  refine wpIn_seq ?_
  refine wideRegion ?_
  go_wp2_with (first
      | (go_at_call 25; refine (HMK.out _ HO.below).mono ?_; clear HMK; rintro eN wN ⟨v, rfl, hbN, pA, cA, rfl, hcA, hrA⟩; have HRA := Lib.hid hrA; have HCA := Lib.hid hcA; clear hrA hcA; have HON := HO.call hbN; clear HO hbN; have HO := HON; clear HON)
      | (go_at_call 27; refine (cutYes_calls b0 o0 pA l openM c cA HCC.out.1 HCA.out HCC.out.2 (by decide) _ (HR.out.below HO.below) HRA.out HPX.out).mono ?_; rintro eN wN ⟨⟨O, rfl, hO⟩, hbN⟩; have HOO := Lib.hid hO; clear hO; have HON := HO.call hbN; clear HO hbN; have HO := HON; clear HON))
  have hmm : l.length - openM.length = m := by show l.length - 6 = m; omega
  have hCC : c - openM.length = C := hC
  rw [hmm, hCC]
  clear hmm hCC hml hC
  have hrr : ∀ W, Below w.heap.size w W → Reads W (some ⟨b0, O, none⟩) (rest.map byV) := fun W hW => by
    rcases HOO.out with h | h
    · have : rest = [] := by rw [← HRE.out]; exact h
      rw [this]
      exact Reads.nil _ _
    · rw [h, ← HRE.out]
      exact rdDrop (HR.out.below hW) 6
  have HRR := Lib.hid hrr
  clear hrr
  refine wpIn_seq ?_
  refine wpIn_seq ?_
  refine wideRegion ?_
  go_wp2
  refine wpIn_cond_false rfl ?_
  refine wpIn_skip ?_
  refine wpIn_seq ?_
  refine wideRegion ?_
  go_wp2_with (first
      | ((with_reducible refine gate ?_); (first
      | ((with_reducible refine gateAt (N := 7) rfl ?_); refine own_allocF (T := 3) HO rfl rfl Tryd.zeroValue3 rfl ?_; clear HO; intro gN wN hggN HO; (try simp only [Act.put, List.setIfInBounds_toArray, List.set_cons_zero, List.set_cons_succ]))
      | ((refine own_load1 (T := 3) HO rfl rfl rfl (by first | exact .head _) Tryd.isAgg3 rfl ?_); (try simp only [Act.put, List.setIfInBounds_toArray, List.set_cons_zero, List.set_cons_succ]))
      | ((refine own_store1 (T := 3) HO rfl rfl rfl (by first | exact .const | exact .tmp rfl | exact .func) (by rfl) (by first | exact .here) Tryd.sizeOf3 (by repeat constructor) (by rfl) ?_); clear HO; intro wN HO; (try simp only [Act.put, List.setIfInBounds_toArray, List.set_cons_zero, List.set_cons_succ])))))
  refine wpIn_seq ?_
  refine wpIn_seq ?_
  refine wideRegion ?_
  go_wp2_with (go_at_call 21; refine (points_calls (some ⟨b0, O, none⟩) m C _).mono ?_; rintro eN wN ⟨gD, rfl, HM⟩; have HON := HO.join HM; clear HO HM; have HO := HON; clear HON; (simp only [List.nil_append, List.cons_append] at HO))
  refine wpIn_block ?_
  have HY : Hid (Iterates Tryd.prog 31 #[.pointer (some ⟨gD, 0, none⟩)] (fun x : Nat × Nat × Bool => #[.slice (some ⟨b0, O + x.1, none⟩) x.2.1 (C - x.1), .bool x.2.2]) (pointsO 0 rest) w [(gD, IsCells [.slice (some ⟨b0, O, none⟩) m C] 24)]) := Lib.hid (by
    have h := points_yields w (some ⟨b0, O, none⟩) b0 O C rest (.inr rfl) (by rw [hm]; exact HF.out.2.2.1) (by rw [hm]; have := HF.out; omega) (HRR.out w (Below.refl _ _)) gD
    rw [hm] at h
    exact h)
  have hin := points_in _ 0 rest (Nat.le_refl _)
  have hpm := points_map rest
  have hcl := cleanOf_le _ rest (Nat.le_refl _)
  have HIN := Lib.hid hin
  have HPM := Lib.hid hpm
  have HCL := Lib.hid hcl
  clear hin hpm hcl hm
  have HO2 : Mine w wN ([(gN, IsCells [.int .i64 0] 3)] ++ [(gD, IsCells [.slice (some ⟨b0, O, none⟩) m C] 24)]) := by
    first | exact HO | exact HO.perm List.perm_append_comm
  clear HO
  refine wpIn_range_mine (gf := 31) (lb := #[.pointer (some ⟨gD, 0, none⟩)]) rfl (enters_of Tryd.func31 (by kernel_rfl) rfl) HY.out (fun _ => rfl)
    (fun pre b2 => (∀ x ∈ pre, x.2.2 = true) ∧ b2 = [(gN, IsCells [.int .i64 (spanOf (pre.map (toL rest)) : Int)] 3)]) (fun c pre b2 => c = .exit 0 ∧ ∃ p0 x, pre = p0 ++ [x] ∧ x.2.2 = false ∧ (∀ x ∈ p0, x.2.2 = true) ∧ b2 = [(gN, IsCells [.int .i64 (spanOf (p0.map (toL rest)) : Int)] 3)]) HO2 ⟨by simp, rfl⟩
    (fun x => { tmps := #[.slice (some ⟨b0, o0, none⟩) l.length c, undef, .slice none 0 0, .int .i64 0, .bool false, .slice (some ⟨b0, O, none⟩) m C, .bool true, .pointer (some ⟨gN, 0, none⟩), .slice (some ⟨b0, O + x.1, none⟩) x.2.1 (C - x.1), .bool x.2.2, .tuple #[.slice (some ⟨b0, O, none⟩) m C, .bool true], .slice (some ⟨b0, o0, none⟩) l.length c, .slice pA 6 cA, .tuple #[.slice (some ⟨b0, O, none⟩) m C, .bool true], .slice (some ⟨b0, O, none⟩) m C, .bool true, .bool true, .bool false, .slice (some ⟨b0, O, none⟩) m C, .func (.func 31) #[] #[.pointer (some ⟨gD, 0, none⟩)], .slice (some ⟨b0, O + x.1, none⟩) x.2.1 (C - x.1), .bool x.2.2, undef, undef, undef, undef, undef, undef, undef, undef, undef, undef, undef, undef, undef, undef, undef, undef, undef, undef, undef, undef, undef, undef, undef, undef, undef, undef], defers := [] }) ?assign ?body ?done ?stop
  case assign =>
    intro m l2 x W3 K hK
    gi_wp2
    exact hK
  case body =>
    rintro m' l2 pre x post W2 bs2 fr hxs ⟨hall, rfl⟩ HM
    obtain ⟨off, k, ok⟩ := x
    have hx := HIN.out (off, k, ok) (by rw [hxs]; simp)
    simp only [Nat.zero_add] at hx
    have hpp := HPM.out
    rw [hxs, show pre ++ (off, k, ok) :: post = (pre ++ [(off, k, ok)]) ++ post by simp, List.map_append] at hpp
    have hle := (HCL.out _ _ hpp.symm).2
    obtain ⟨nw, hnw⟩ : ∃ nw, (rest.drop off).take k = nw := ⟨_, rfl⟩
    have hnl : nw.length = k := by rw [← hnw]; simp; omega
    have hmp : (pre ++ [(off, k, ok)]).map (toL rest) = pre.map (toL rest) ++ [(nw, ok)] := by
      rw [List.map_append]
      show _ ++ [((rest.drop off).take k, ok)] = _
      rw [hnw]
    rw [hmp, List.flatMap_append, List.length_append] at hle
    have hs0 := spanOf_flat (pre.map (toL rest))
    have hsk : spanOf (pre.map (toL rest)) + k ≤ 100000 := by
      have := HF.out
      simp only [List.flatMap_cons, List.flatMap_nil, List.append_nil] at hle
      omega
    have hall2 : ∀ x ∈ pre.map (toL rest), x.2 = true := by
      intro x hx
      obtain ⟨y, hy, rfl⟩ := List.mem_map.1 hx
      exact hall y hy
    have hst : ok = true → spanOf ((pre ++ [(off, k, ok)]).map (toL rest)) = spanOf (pre.map (toL rest)) + k := fun h => by
      subst h
      rw [hmp, spanOf_app _ _ hall2]
      show _ + spanOf [(nw, true)] = _
      unfold spanOf
      rw [if_pos rfl, hnl]
      rfl
    obtain ⟨s, hs⟩ : ∃ s, spanOf (pre.map (toL rest)) = s := ⟨_, rfl⟩
    rw [hs] at hst hsk
    have hsum : wrap64 ((s : Int) + (k : Int)) = ((s + k : Nat) : Int) := by unfold wrap64; omega
    have HST := Lib.hid hst
    have hal2 : ok = true → ∀ x ∈ pre ++ [(off, k, ok)], x.2.2 = true := fun h x hx => by
      rcases List.mem_append.1 hx with hx | hx
      · exact hall x hx
      · rw [List.mem_singleton.1 hx]; exact h
    have HAL2 := Lib.hid hal2
    clear hal2
    have HALL := Lib.hid hall
    have HSS := Lib.hid hs
    have HO : Mine w W2 ((gN, IsCells [.int .i64 (s : Int)] 3) :: fr) := by rw [← hs]; exact HM
    clear HM hx hpp hle hnw hnl hmp hs0 hall hall2 hst hs hxs HO2
    refine wpIn_block ?_
    refine wpIn_seq ?_
    refine wpIn_seq ?_
    refine inRegion (fun ⟨_, _, h⟩ => h) rfl ?_
    go_wp2
    cases ok
    · refine wpIn_cond_true rfl ?_
      refine wpIn_exit ?_
      exact ⟨_, ⟨rfl, pre, (off, k, false), rfl, rfl, HALL.out, rfl⟩, by rw [HSS.out]; exact HO⟩
    · refine wpIn_cond_false rfl ?_
      refine wpIn_skip ?_
      refine inRegion (fun ⟨_, _, h⟩ => h) rfl ?_
      go_wp2_with (first
      | ((with_reducible refine gate ?_); (first
      | ((refine own_load1 (T := 3) HO rfl rfl rfl (by first | exact .head _) Tryd.isAgg3 rfl ?_); (try simp only [Act.put, List.setIfInBounds_toArray, List.set_cons_zero, List.set_cons_succ]))
      | ((refine own_store1 (T := 3) HO rfl rfl rfl (by first | exact .const | exact .tmp rfl | exact .func) (by rfl) (by first | exact .here) Tryd.sizeOf3 (by repeat constructor) (by rfl) ?_); clear HO; intro wN HO; (try simp only [Act.put, List.setIfInBounds_toArray, List.set_cons_zero, List.set_cons_succ])))))
      refine ⟨_, ⟨?_, rfl⟩, ?_⟩
      · first
        | exact HAL2.out (by trivial)
        | exact fun a b h => (Bool.false_ne_true (HAL2.out (by trivial) (a, b, false) h)).elim
      · rw [HST.out (by trivial)]
        exact HO
  case done =>
    rintro D W2 bs2 ⟨hall, rfl⟩ HM
    have HO : Mine w W2 ((gN, IsCells [.int .i64 (n : Int)] 3) :: [(D, IsDef)]) := by
      have h := HM
      rw [HPM.out, HF.out.2.2.2.2.2.2] at h
      exact h
    clear HM HO2 hall
    have hnm := HF.out.1
    have hmC := HF.out.2.2.1
    have d1 : decide ((n : Int) ≤ (m : Int)) = true := decide_eq_true (by omega)
    have d2 : decide (n ≤ m) = true := decide_eq_true hnm
    have d3 : ¬ m < n := by omega
    have d4 : decide ((m : Int) ≤ (C : Int)) = true := decide_eq_true (by omega)
    have d5 : decide (m ≤ C) = true := decide_eq_true hmC
    have d6 : ¬ C < m := by omega
    have d7 : ¬ C < n := by omega
    have d8 : n ≤ C := by omega
    have d9 : decide ((n : Int) ≤ (C : Int)) = true := decide_eq_true (by omega)
    have s1 : wrap64 ((l.length : Int) - (m : Int)) = 6 := by have := HF.out.2.1; have := HF.out.2.2.2.1; unfold wrap64; omega
    have s2 : wrap64 (6 + (n : Int)) = 6 + (n : Int) := by have := HF.out.2.2.2.1; have := HF.out.2.1; unfold wrap64; omega
    have s3 : wrap64 (6 + (n : Int) + 6) = ((n + 12 : Nat) : Int) := by have := HF.out.2.2.2.1; have := HF.out.2.1; unfold wrap64; omega
    have u1 : IntKind.i64.wrap ((l.length : Int) - (m : Int)) = 6 := by rw [IntKind.wrap_i64]; have := HF.out.2.1; have := HF.out.2.2.2.1; omega
    have u2 : IntKind.i64.wrap (6 + (n : Int)) = 6 + (n : Int) := by rw [IntKind.wrap_i64]; have := HF.out.2.2.2.1; have := HF.out.2.1; omega
    have u3 : IntKind.i64.wrap (6 + (n : Int) + 6) = (n : Int) + 12 := by rw [IntKind.wrap_i64]; have := HF.out.2.2.2.1; have := HF.out.2.1; omega
    obtain ⟨d, hd0⟩ : ∃ d, decide ((rest.drop n).take 6 = shutM) = d := ⟨_, rfl⟩
    have HD := Lib.hid hd0
    have hdl : (rest.drop n).length = m - n := by rw [List.length_drop, HF.out.2.2.2.2.1]
    have htl : (rest.take n).length = n := by rw [List.length_take, HF.out.2.2.2.2.1]; omega
    have HTL := Lib.hid htl
    refine wpIn_seq ?_
    refine wpIn_seq ?_
    by_cases hCn : C = n
    · have hdn : rest.drop n = [] := List.drop_eq_nil_of_le (by rw [HF.out.2.2.2.2.1]; omega)
      have HHP : Hid (∀ pB cB W, shutM.length ≤ cB → Below w.heap.size w W → Reads W pB (shutM.map byV) → Calls Tryd.prog 28 #[.slice (some ⟨b0, O, none⟩) (m - n) 0, .slice pB shutM.length cB] W fun e w' => e = .returned (.bool d) ∧ Below W.heap.size W w') := Lib.hid fun pB cB W hcB hW hrB => by
        have h := hasPrefix_calls (some ⟨b0, O, none⟩) pB (rest.drop n) shutM 0 cB (by rw [hdn]; exact Nat.zero_le _) W (by rw [hdn]; exact Reads.nil _ _) hrB
        rw [hdl, show shutM.length = 6 from rfl, hd0] at h
        exact h
      clear hnm hmC hd0 hdl htl hdn
      cases d
      · refine region_lawW rfl 6 [fIs (.slice (some ⟨b0, O, none⟩) m C), fIs (.int .i64 (n : Int)), fIs (.slice (some ⟨b0, O, none⟩) (m - n) 0), fRc shutM, fIs (.bool false), fIs (.bool true)] HO (by kernel_rfl) (by kernel_rfl) (by decide) (by kernel_rfl)
          (stays_cons (Stays.fIs _) (stays_cons (Stays.fIs _) (stays_cons (Stays.fIs _) (stays_cons (Stays.fRc _) (stays_cons (Stays.fIs _) (stays_cons (Stays.fIs _) stays_nil)))))) ?_
        intro vals A hA
        simp [fillL, dstOf, List.range, List.range.loop, Act.put] at hA
        subst hA
        refine ⟨⟨?_, ?_, ?_, ?_, ?_, ?_, trivial⟩, ?_⟩
        all_goals intro W hd hM hb0
        case refine_1 =>
          skip
          exact st_val rfl (by simp only [execOp]; first | (go_simp; done) | (go_simp; rfl)) rfl
        case refine_2 =>
          skip
          exact st_load1 hM rfl rfl rfl (.head _) Tryd.isAgg3 rfl rfl
        case refine_3 =>
          have v0 : vals 0 = .slice (some ⟨b0, O, none⟩) m C := hd 0 (by kernel_rfl)
          have v1 : vals 1 = .int .i64 (n : Int) := hd 1 (by kernel_rfl)
          rw [v0, v1]
          exact st_val rfl (by simp only [execOp]; first | (go_simp; done) | (go_simp; rfl)) rfl
        case refine_4 =>
          skip
          exact st_call rfl (by simp only [execOp]; first | (go_simp; done) | (go_simp; rfl)) (HMS.out W hM.below) (by rintro e w' ⟨v, rfl, hb, hf⟩; exact ⟨_, rfl, hb, hf⟩)
        case refine_5 =>
          have v2 : vals 2 = .slice (some ⟨b0, O, none⟩) (m - n) 0 := hd 2 (by kernel_rfl)
          rw [v2]
          obtain ⟨pB, cB, eB, hcB, hrB⟩ : fRc shutM (vals 3) W := hd 3 (by kernel_rfl)
          rw [eB]
          have hq := HHP.out pB cB W hcB hM.below hrB
          exact st_call rfl (by simp only [execOp]; first | (go_simp; done) | (go_simp; rfl)) hq (by rintro e w' ⟨rfl, hb⟩; exact ⟨_, rfl, hb, rfl⟩)
        case refine_6 =>
          have v4 : vals 4 = .bool false := hd 4 (by kernel_rfl)
          rw [v4]
          exact st_val rfl (by simp only [execOp]; first | (go_simp; done) | (go_simp; rfl)) rfl
        case refine_7 =>
          have v0 : vals 0 = .slice (some ⟨b0, O, none⟩) m C := hd 0 (by omega)
          have v1 : vals 1 = .int .i64 (n : Int) := hd 1 (by omega)
          have v2 : vals 2 = .slice (some ⟨b0, O, none⟩) (m - n) 0 := hd 2 (by omega)
          have v4 : vals 4 = .bool false := hd 4 (by omega)
          have v5 : vals 5 = .bool true := hd 5 (by omega)
          rw [v0, v1, v2, v4, v5]
          simp only [List.drop_succ_cons, List.drop_zero]
          have HO := hM
          clear hM hd hb0
          gi_wp2
          refine leaves_mark (bs := [(gN, IsCells [.int .i64 (n : Int)] 3)]) HO fun W3 HM3 => ?_
          exact ⟨_, results_tmp3 Tryd.results16 _ _ _, nil_takeG (HNO.out (of_decide_eq_false HD.out)) HM3.below⟩
      · refine region_lawW rfl 6 [fIs (.slice (some ⟨b0, O, none⟩) m C), fIs (.int .i64 (n : Int)), fIs (.slice (some ⟨b0, O, none⟩) (m - n) 0), fRc shutM, fIs (.bool true), fIs (.bool false)] HO (by kernel_rfl) (by kernel_rfl) (by decide) (by kernel_rfl)
          (stays_cons (Stays.fIs _) (stays_cons (Stays.fIs _) (stays_cons (Stays.fIs _) (stays_cons (Stays.fRc _) (stays_cons (Stays.fIs _) (stays_cons (Stays.fIs _) stays_nil)))))) ?_
        intro vals A hA
        simp [fillL, dstOf, List.range, List.range.loop, Act.put] at hA
        subst hA
        refine ⟨⟨?_, ?_, ?_, ?_, ?_, ?_, trivial⟩, ?_⟩
        all_goals intro W hd hM hb0
        case refine_1 =>
          skip
          exact st_val rfl (by simp only [execOp]; first | (go_simp; done) | (go_simp; rfl)) rfl
        case refine_2 =>
          skip
          exact st_load1 hM rfl rfl rfl (.head _) Tryd.isAgg3 rfl rfl
        case refine_3 =>
          have v0 : vals 0 = .slice (some ⟨b0, O, none⟩) m C := hd 0 (by kernel_rfl)
          have v1 : vals 1 = .int .i64 (n : Int) := hd 1 (by kernel_rfl)
          rw [v0, v1]
          exact st_val rfl (by simp only [execOp]; first | (go_simp; done) | (go_simp; rfl)) rfl
        case refine_4 =>
          skip
          exact st_call rfl (by simp only [execOp]; first | (go_simp; done) | (go_simp; rfl)) (HMS.out W hM.below) (by rintro e w' ⟨v, rfl, hb, hf⟩; exact ⟨_, rfl, hb, hf⟩)
        case refine_5 =>
          have v2 : vals 2 = .slice (some ⟨b0, O, none⟩) (m - n) 0 := hd 2 (by kernel_rfl)
          rw [v2]
          obtain ⟨pB, cB, eB, hcB, hrB⟩ : fRc shutM (vals 3) W := hd 3 (by kernel_rfl)
          rw [eB]
          have hq := HHP.out pB cB W hcB hM.below hrB
          exact st_call rfl (by simp only [execOp]; first | (go_simp; done) | (go_simp; rfl)) hq (by rintro e w' ⟨rfl, hb⟩; exact ⟨_, rfl, hb, rfl⟩)
        case refine_6 =>
          have v4 : vals 4 = .bool true := hd 4 (by kernel_rfl)
          rw [v4]
          exact st_val rfl (by simp only [execOp]; first | (go_simp; done) | (go_simp; rfl)) rfl
        case refine_7 =>
          have v0 : vals 0 = .slice (some ⟨b0, O, none⟩) m C := hd 0 (by omega)
          have v1 : vals 1 = .int .i64 (n : Int) := hd 1 (by omega)
          have v2 : vals 2 = .slice (some ⟨b0, O, none⟩) (m - n) 0 := hd 2 (by omega)
          have v4 : vals 4 = .bool true := hd 4 (by omega)
          have v5 : vals 5 = .bool false := hd 5 (by omega)
          rw [v0, v1, v2, v4, v5]
          simp only [List.drop_succ_cons, List.drop_zero]
          have HO := hM
          clear hM hd hb0
          gi_wp2
          refine region_lawW rfl 17 [fIs (.slice (some ⟨b0, O, none⟩) m C), fIs (.int .i64 (n : Int)), fIs (.slice (some ⟨b0, O, none⟩) n C), fOw W.heap.size (rest.take n), fIs (.slice (some ⟨b0, o0, none⟩) l.length c), fIs (.int .i64 (l.length : Int)), fIs (.slice (some ⟨b0, O, none⟩) m C), fIs (.int .i64 (m : Int)), fIs (.int .i64 6), fIs (.int .i64 (n : Int)), fIs (.int .i64 (6 + (n : Int))), fRc shutM, fIs (.int .i64 6), fIs (.int .i64 ((n + 12 : Nat) : Int)), fOw W.heap.size (rest.take n), fIs (.int .i64 ((n + 12 : Nat) : Int)), fIs (.bool true)] HO (by kernel_rfl) (by kernel_rfl) (by decide) (by kernel_rfl)
            (stays_cons (Stays.fIs _) (stays_cons (Stays.fIs _) (stays_cons (Stays.fIs _) (stays_cons (Stays.fOw _ _) (stays_cons (Stays.fIs _) (stays_cons (Stays.fIs _) (stays_cons (Stays.fIs _) (stays_cons (Stays.fIs _) (stays_cons (Stays.fIs _) (stays_cons (Stays.fIs _) (stays_cons (Stays.fIs _) (stays_cons (Stays.fRc _) (stays_cons (Stays.fIs _) (stays_cons (Stays.fIs _) (stays_cons (Stays.fOw _ _) (stays_cons (Stays.fIs _) (stays_cons (Stays.fIs _) stays_nil))))))))))))))))) ?_
          intro vals A hA
          simp [fillL, dstOf, List.range, List.range.loop, Act.put] at hA
          subst hA
          refine ⟨⟨?_, ?_, ?_, ?_, ?_, ?_, ?_, ?_, ?_, ?_, ?_, ?_, ?_, ?_, ?_, ?_, ?_, trivial⟩, ?_⟩
          all_goals intro W hd hM hb0
          case refine_1 =>
            skip
            exact st_val rfl (by simp only [execOp]; first | (go_simp; done) | (go_simp; rfl)) rfl
          case refine_2 =>
            skip
            exact st_load1 hM rfl rfl rfl (.head _) Tryd.isAgg3 rfl rfl
          case refine_3 =>
            have v0 : vals 0 = .slice (some ⟨b0, O, none⟩) m C := hd 0 (by kernel_rfl)
            have v1 : vals 1 = .int .i64 (n : Int) := hd 1 (by kernel_rfl)
            rw [v0, v1]
            exact st_val rfl (by simp only [execOp]; first | (go_simp; done) | (go_simp; rfl)) rfl
          case refine_4 =>
            have v2 : vals 2 = .slice (some ⟨b0, O, none⟩) n C := hd 2 (by kernel_rfl)
            rw [v2]
            have hq := cloneB_calls (some ⟨b0, O, none⟩) C (rest.take n) (by rw [HTL.out]; have := HF.out; omega) W (rdTake (HRR.out W hM.below) n)
            rw [HTL.out] at hq
            exact st_call rfl (by simp only [execOp]; first | (go_simp; done) | (go_simp; rfl)) hq (by rintro e w' ⟨v, R, rfl, hR, hMM⟩; exact ⟨_, rfl, hMM.below, fOw_of hR hMM hb0.size⟩)
          case refine_5 =>
            skip
            exact st_val rfl (by simp only [execOp]; first | (go_simp; done) | (go_simp; rfl)) rfl
          case refine_6 =>
            have v4 : vals 4 = .slice (some ⟨b0, o0, none⟩) l.length c := hd 4 (by kernel_rfl)
            rw [v4]
            exact st_val rfl (by simp only [execOp]; first | (go_simp; done) | (go_simp; rfl)) rfl
          case refine_7 =>
            skip
            exact st_val rfl (by simp only [execOp]; first | (go_simp; done) | (go_simp; rfl)) rfl
          case refine_8 =>
            have v6 : vals 6 = .slice (some ⟨b0, O, none⟩) m C := hd 6 (by kernel_rfl)
            rw [v6]
            exact st_val rfl (by simp only [execOp]; first | (go_simp; done) | (go_simp; rfl)) rfl
          case refine_9 =>
            have v5 : vals 5 = .int .i64 (l.length : Int) := hd 5 (by kernel_rfl)
            have v7 : vals 7 = .int .i64 (m : Int) := hd 7 (by kernel_rfl)
            rw [v5, v7]
            exact st_val rfl (by simp only [execOp]; first | (go_simp; done) | (go_simp; rfl)) rfl
          case refine_10 =>
            skip
            exact st_load1 hM rfl rfl rfl (.head _) Tryd.isAgg3 rfl rfl
          case refine_11 =>
            have v8 : vals 8 = .int .i64 6 := hd 8 (by kernel_rfl)
            have v9 : vals 9 = .int .i64 (n : Int) := hd 9 (by kernel_rfl)
            rw [v8, v9]
            exact st_val rfl (by simp only [execOp]; first | (go_simp; done) | (go_simp; rfl)) rfl
          case refine_12 =>
            skip
            exact st_call rfl (by simp only [execOp]; first | (go_simp; done) | (go_simp; rfl)) (HMS.out W hM.below) (by rintro e w' ⟨v, rfl, hb, hf⟩; exact ⟨_, rfl, hb, hf⟩)
          case refine_13 =>
            skip
            obtain ⟨pB, cB, eB, hcB, hrB⟩ : fRc shutM (vals 11) W := hd 11 (by kernel_rfl)
            rw [eB]
            exact st_val rfl (by simp only [execOp]; first | (go_simp; done) | (go_simp; rfl)) rfl
          case refine_14 =>
            have v10 : vals 10 = .int .i64 (6 + (n : Int)) := hd 10 (by kernel_rfl)
            have v12 : vals 12 = .int .i64 6 := hd 12 (by kernel_rfl)
            rw [v10, v12]
            exact st_val rfl (by simp only [execOp]; first | (go_simp; done) | (go_simp; rfl)) rfl
          case refine_15 =>
            skip
            exact st_val rfl (by simp only [execOp]; first | (go_simp; done) | (go_simp; rfl)) (hd 3 (by kernel_rfl))
          case refine_16 =>
            have v13 : vals 13 = .int .i64 ((n + 12 : Nat) : Int) := hd 13 (by kernel_rfl)
            rw [v13]
            exact st_val rfl (by simp only [execOp]; first | (go_simp; done) | (go_simp; rfl)) rfl
          case refine_17 =>
            skip
            exact st_val rfl (by simp only [execOp]; first | (go_simp; done) | (go_simp; rfl)) rfl
          case refine_18 =>
            have v15 : vals 15 = .int .i64 ((n + 12 : Nat) : Int) := hd 15 (by omega)
            have v16 : vals 16 = .bool true := hd 16 (by omega)
            rw [v15, v16]
            simp only [List.drop_succ_cons, List.drop_zero]
            have h14 : fOw _ (rest.take n) (vals 14) W := hd 14 (by omega)
            obtain ⟨R4, hR4, hM4⟩ := GRow.of_own h14 hb0
            have HO2 := HO.join hM4
            clear HO
            have HO : Mine w W (((gN, IsCells [.int .i64 (n : Int)] 3) :: R4) ++ [(D, IsDef)]) := HO2.perm (show ((gN, IsCells [.int .i64 (n : Int)] 3) :: ([(D, IsDef)] ++ R4)).Perm ((gN, IsCells [.int .i64 (n : Int)] 3) :: (R4 ++ [(D, IsDef)])) from List.Perm.cons _ List.perm_append_comm)
            have HR4 := Lib.hid hR4
            clear hM hd hb0 h14 hM4 HO2 hR4
            gi_wp2
            refine leaves_mark (bs := (gN, IsCells [.int .i64 (n : Int)] 3) :: R4) HO fun W3 HM3 => ?_
            refine ⟨_, results_tmp3 Tryd.results16 _ _ _, ?_⟩
            rw [HYES.out (of_decide_eq_true HD.out)]
            have h4 := HR4.out
            exact ⟨_, R4, rfl, h4, HM3.less (List.sublist_cons_self _ _)⟩
    · have HHP : Hid (∀ pB cB W, shutM.length ≤ cB → Below w.heap.size w W → Reads W pB (shutM.map byV) → Calls Tryd.prog 28 #[.slice (some ⟨b0, O + n, none⟩) (m - n) (C - n), .slice pB shutM.length cB] W fun e w' => e = .returned (.bool d) ∧ Below W.heap.size W w') := Lib.hid fun pB cB W hcB hW hrB => by
        have h := hasPrefix_calls (some ⟨b0, O + n, none⟩) pB (rest.drop n) shutM (C - n) cB (by rw [hdl]; omega) W (rdDrop (HRR.out W hW) n) hrB
        rw [hdl, show shutM.length = 6 from rfl, hd0] at h
        exact h
      clear hnm hmC hd0 hdl htl
      cases d
      · refine region_lawW rfl 6 [fIs (.slice (some ⟨b0, O, none⟩) m C), fIs (.int .i64 (n : Int)), fIs (.slice (some ⟨b0, O + n, none⟩) (m - n) (C - n)), fRc shutM, fIs (.bool false), fIs (.bool true)] HO (by kernel_rfl) (by kernel_rfl) (by decide) (by kernel_rfl)
          (stays_cons (Stays.fIs _) (stays_cons (Stays.fIs _) (stays_cons (Stays.fIs _) (stays_cons (Stays.fRc _) (stays_cons (Stays.fIs _) (stays_cons (Stays.fIs _) stays_nil)))))) ?_
        intro vals A hA
        simp [fillL, dstOf, List.range, List.range.loop, Act.put] at hA
        subst hA
        refine ⟨⟨?_, ?_, ?_, ?_, ?_, ?_, trivial⟩, ?_⟩
        all_goals intro W hd hM hb0
        case refine_1 =>
          skip
          exact st_val rfl (by simp only [execOp]; first | (go_simp; done) | (go_simp; rfl)) rfl
        case refine_2 =>
          skip
          exact st_load1 hM rfl rfl rfl (.head _) Tryd.isAgg3 rfl rfl
        case refine_3 =>
          have v0 : vals 0 = .slice (some ⟨b0, O, none⟩) m C := hd 0 (by kernel_rfl)
          have v1 : vals 1 = .int .i64 (n : Int) := hd 1 (by kernel_rfl)
          rw [v0, v1]
          exact st_val rfl (by simp only [execOp]; first | (go_simp; done) | (go_simp; rfl)) rfl
        case refine_4 =>
          skip
          exact st_call rfl (by simp only [execOp]; first | (go_simp; done) | (go_simp; rfl)) (HMS.out W hM.below) (by rintro e w' ⟨v, rfl, hb, hf⟩; exact ⟨_, rfl, hb, hf⟩)
        case refine_5 =>
          have v2 : vals 2 = .slice (some ⟨b0, O + n, none⟩) (m - n) (C - n) := hd 2 (by kernel_rfl)
          rw [v2]
          obtain ⟨pB, cB, eB, hcB, hrB⟩ : fRc shutM (vals 3) W := hd 3 (by kernel_rfl)
          rw [eB]
          have hq := HHP.out pB cB W hcB hM.below hrB
          exact st_call rfl (by simp only [execOp]; first | (go_simp; done) | (go_simp; rfl)) hq (by rintro e w' ⟨rfl, hb⟩; exact ⟨_, rfl, hb, rfl⟩)
        case refine_6 =>
          have v4 : vals 4 = .bool false := hd 4 (by kernel_rfl)
          rw [v4]
          exact st_val rfl (by simp only [execOp]; first | (go_simp; done) | (go_simp; rfl)) rfl
        case refine_7 =>
          have v0 : vals 0 = .slice (some ⟨b0, O, none⟩) m C := hd 0 (by omega)
          have v1 : vals 1 = .int .i64 (n : Int) := hd 1 (by omega)
          have v2 : vals 2 = .slice (some ⟨b0, O + n, none⟩) (m - n) (C - n) := hd 2 (by omega)
          have v4 : vals 4 = .bool false := hd 4 (by omega)
          have v5 : vals 5 = .bool true := hd 5 (by omega)
          rw [v0, v1, v2, v4, v5]
          simp only [List.drop_succ_cons, List.drop_zero]
          have HO := hM
          clear hM hd hb0
          gi_wp2
          refine leaves_mark (bs := [(gN, IsCells [.int .i64 (n : Int)] 3)]) HO fun W3 HM3 => ?_
          exact ⟨_, results_tmp3 Tryd.results16 _ _ _, nil_takeG (HNO.out (of_decide_eq_false HD.out)) HM3.below⟩
      · refine region_lawW rfl 6 [fIs (.slice (some ⟨b0, O, none⟩) m C), fIs (.int .i64 (n : Int)), fIs (.slice (some ⟨b0, O + n, none⟩) (m - n) (C - n)), fRc shutM, fIs (.bool true), fIs (.bool false)] HO (by kernel_rfl) (by kernel_rfl) (by decide) (by kernel_rfl)
          (stays_cons (Stays.fIs _) (stays_cons (Stays.fIs _) (stays_cons (Stays.fIs _) (stays_cons (Stays.fRc _) (stays_cons (Stays.fIs _) (stays_cons (Stays.fIs _) stays_nil)))))) ?_
        intro vals A hA
        simp [fillL, dstOf, List.range, List.range.loop, Act.put] at hA
        subst hA
        refine ⟨⟨?_, ?_, ?_, ?_, ?_, ?_, trivial⟩, ?_⟩
        all_goals intro W hd hM hb0
        case refine_1 =>
          skip
          exact st_val rfl (by simp only [execOp]; first | (go_simp; done) | (go_simp; rfl)) rfl
        case refine_2 =>
          skip
          exact st_load1 hM rfl rfl rfl (.head _) Tryd.isAgg3 rfl rfl
        case refine_3 =>
          have v0 : vals 0 = .slice (some ⟨b0, O, none⟩) m C := hd 0 (by kernel_rfl)
          have v1 : vals 1 = .int .i64 (n : Int) := hd 1 (by kernel_rfl)
          rw [v0, v1]
          exact st_val rfl (by simp only [execOp]; first | (go_simp; done) | (go_simp; rfl)) rfl
        case refine_4 =>
          skip
          exact st_call rfl (by simp only [execOp]; first | (go_simp; done) | (go_simp; rfl)) (HMS.out W hM.below) (by rintro e w' ⟨v, rfl, hb, hf⟩; exact ⟨_, rfl, hb, hf⟩)
        case refine_5 =>
          have v2 : vals 2 = .slice (some ⟨b0, O + n, none⟩) (m - n) (C - n) := hd 2 (by kernel_rfl)
          rw [v2]
          obtain ⟨pB, cB, eB, hcB, hrB⟩ : fRc shutM (vals 3) W := hd 3 (by kernel_rfl)
          rw [eB]
          have hq := HHP.out pB cB W hcB hM.below hrB
          exact st_call rfl (by simp only [execOp]; first | (go_simp; done) | (go_simp; rfl)) hq (by rintro e w' ⟨rfl, hb⟩; exact ⟨_, rfl, hb, rfl⟩)
        case refine_6 =>
          have v4 : vals 4 = .bool true := hd 4 (by kernel_rfl)
          rw [v4]
          exact st_val rfl (by simp only [execOp]; first | (go_simp; done) | (go_simp; rfl)) rfl
        case refine_7 =>
          have v0 : vals 0 = .slice (some ⟨b0, O, none⟩) m C := hd 0 (by omega)
          have v1 : vals 1 = .int .i64 (n : Int) := hd 1 (by omega)
          have v2 : vals 2 = .slice (some ⟨b0, O + n, none⟩) (m - n) (C - n) := hd 2 (by omega)
          have v4 : vals 4 = .bool true := hd 4 (by omega)
          have v5 : vals 5 = .bool false := hd 5 (by omega)
          rw [v0, v1, v2, v4, v5]
          simp only [List.drop_succ_cons, List.drop_zero]
          have HO := hM
          clear hM hd hb0
          gi_wp2
          refine region_lawW rfl 17 [fIs (.slice (some ⟨b0, O, none⟩) m C), fIs (.int .i64 (n : Int)), fIs (.slice (some ⟨b0, O, none⟩) n C), fOw W.heap.size (rest.take n), fIs (.slice (some ⟨b0, o0, none⟩) l.length c), fIs (.int .i64 (l.length : Int)), fIs (.slice (some ⟨b0, O, none⟩) m C), fIs (.int .i64 (m : Int)), fIs (.int .i64 6), fIs (.int .i64 (n : Int)), fIs (.int .i64 (6 + (n : Int))), fRc shutM, fIs (.int .i64 6), fIs (.int .i64 ((n + 12 : Nat) : Int)), fOw W.heap.size (rest.take n), fIs (.int .i64 ((n + 12 : Nat) : Int)), fIs (.bool true)] HO (by kernel_rfl) (by kernel_rfl) (by decide) (by kernel_rfl)
            (stays_cons (Stays.fIs _) (stays_cons (Stays.fIs _) (stays_cons (Stays.fIs _) (stays_cons (Stays.fOw _ _) (stays_cons (Stays.fIs _) (stays_cons (Stays.fIs _) (stays_cons (Stays.fIs _) (stays_cons (Stays.fIs _) (stays_cons (Stays.fIs _) (stays_cons (Stays.fIs _) (stays_cons (Stays.fIs _) (stays_cons (Stays.fRc _) (stays_cons (Stays.fIs _) (stays_cons (Stays.fIs _) (stays_cons (Stays.fOw _ _) (stays_cons (Stays.fIs _) (stays_cons (Stays.fIs _) stays_nil))))))))))))))))) ?_
          intro vals A hA
          simp [fillL, dstOf, List.range, List.range.loop, Act.put] at hA
          subst hA
          refine ⟨⟨?_, ?_, ?_, ?_, ?_, ?_, ?_, ?_, ?_, ?_, ?_, ?_, ?_, ?_, ?_, ?_, ?_, trivial⟩, ?_⟩
          all_goals intro W hd hM hb0
          case refine_1 =>
            skip
            exact st_val rfl (by simp only [execOp]; first | (go_simp; done) | (go_simp; rfl)) rfl
          case refine_2 =>
            skip
            exact st_load1 hM rfl rfl rfl (.head _) Tryd.isAgg3 rfl rfl
          case refine_3 =>
            have v0 : vals 0 = .slice (some ⟨b0, O, none⟩) m C := hd 0 (by kernel_rfl)
            have v1 : vals 1 = .int .i64 (n : Int) := hd 1 (by kernel_rfl)
            rw [v0, v1]
            exact st_val rfl (by simp only [execOp]; first | (go_simp; done) | (go_simp; rfl)) rfl
          case refine_4 =>
            have v2 : vals 2 = .slice (some ⟨b0, O, none⟩) n C := hd 2 (by kernel_rfl)
            rw [v2]
            have hq := cloneB_calls (some ⟨b0, O, none⟩) C (rest.take n) (by rw [HTL.out]; have := HF.out; omega) W (rdTake (HRR.out W hM.below) n)
            rw [HTL.out] at hq
            exact st_call rfl (by simp only [execOp]; first | (go_simp; done) | (go_simp; rfl)) hq (by rintro e w' ⟨v, R, rfl, hR, hMM⟩; exact ⟨_, rfl, hMM.below, fOw_of hR hMM hb0.size⟩)
          case refine_5 =>
            skip
            exact st_val rfl (by simp only [execOp]; first | (go_simp; done) | (go_simp; rfl)) rfl
          case refine_6 =>
            have v4 : vals 4 = .slice (some ⟨b0, o0, none⟩) l.length c := hd 4 (by kernel_rfl)
            rw [v4]
            exact st_val rfl (by simp only [execOp]; first | (go_simp; done) | (go_simp; rfl)) rfl
          case refine_7 =>
            skip
            exact st_val rfl (by simp only [execOp]; first | (go_simp; done) | (go_simp; rfl)) rfl
          case refine_8 =>
            have v6 : vals 6 = .slice (some ⟨b0, O, none⟩) m C := hd 6 (by kernel_rfl)
            rw [v6]
            exact st_val rfl (by simp only [execOp]; first | (go_simp; done) | (go_simp; rfl)) rfl
          case refine_9 =>
            have v5 : vals 5 = .int .i64 (l.length : Int) := hd 5 (by kernel_rfl)
            have v7 : vals 7 = .int .i64 (m : Int) := hd 7 (by kernel_rfl)
            rw [v5, v7]
            exact st_val rfl (by simp only [execOp]; first | (go_simp; done) | (go_simp; rfl)) rfl
          case refine_10 =>
            skip
            exact st_load1 hM rfl rfl rfl (.head _) Tryd.isAgg3 rfl rfl
          case refine_11 =>
            have v8 : vals 8 = .int .i64 6 := hd 8 (by kernel_rfl)
            have v9 : vals 9 = .int .i64 (n : Int) := hd 9 (by kernel_rfl)
            rw [v8, v9]
            exact st_val rfl (by simp only [execOp]; first | (go_simp; done) | (go_simp; rfl)) rfl
          case refine_12 =>
            skip
            exact st_call rfl (by simp only [execOp]; first | (go_simp; done) | (go_simp; rfl)) (HMS.out W hM.below) (by rintro e w' ⟨v, rfl, hb, hf⟩; exact ⟨_, rfl, hb, hf⟩)
          case refine_13 =>
            skip
            obtain ⟨pB, cB, eB, hcB, hrB⟩ : fRc shutM (vals 11) W := hd 11 (by kernel_rfl)
            rw [eB]
            exact st_val rfl (by simp only [execOp]; first | (go_simp; done) | (go_simp; rfl)) rfl
          case refine_14 =>
            have v10 : vals 10 = .int .i64 (6 + (n : Int)) := hd 10 (by kernel_rfl)
            have v12 : vals 12 = .int .i64 6 := hd 12 (by kernel_rfl)
            rw [v10, v12]
            exact st_val rfl (by simp only [execOp]; first | (go_simp; done) | (go_simp; rfl)) rfl
          case refine_15 =>
            skip
            exact st_val rfl (by simp only [execOp]; first | (go_simp; done) | (go_simp; rfl)) (hd 3 (by kernel_rfl))
          case refine_16 =>
            have v13 : vals 13 = .int .i64 ((n + 12 : Nat) : Int) := hd 13 (by kernel_rfl)
            rw [v13]
            exact st_val rfl (by simp only [execOp]; first | (go_simp; done) | (go_simp; rfl)) rfl
          case refine_17 =>
            skip
            exact st_val rfl (by simp only [execOp]; first | (go_simp; done) | (go_simp; rfl)) rfl
          case refine_18 =>
            have v15 : vals 15 = .int .i64 ((n + 12 : Nat) : Int) := hd 15 (by omega)
            have v16 : vals 16 = .bool true := hd 16 (by omega)
            rw [v15, v16]
            simp only [List.drop_succ_cons, List.drop_zero]
            have h14 : fOw _ (rest.take n) (vals 14) W := hd 14 (by omega)
            obtain ⟨R4, hR4, hM4⟩ := GRow.of_own h14 hb0
            have HO2 := HO.join hM4
            clear HO
            have HO : Mine w W (((gN, IsCells [.int .i64 (n : Int)] 3) :: R4) ++ [(D, IsDef)]) := HO2.perm (show ((gN, IsCells [.int .i64 (n : Int)] 3) :: ([(D, IsDef)] ++ R4)).Perm ((gN, IsCells [.int .i64 (n : Int)] 3) :: (R4 ++ [(D, IsDef)])) from List.Perm.cons _ List.perm_append_comm)
            have HR4 := Lib.hid hR4
            clear hM hd hb0 h14 hM4 HO2 hR4
            gi_wp2
            refine leaves_mark (bs := (gN, IsCells [.int .i64 (n : Int)] 3) :: R4) HO fun W3 HM3 => ?_
            refine ⟨_, results_tmp3 Tryd.results16 _ _ _, ?_⟩
            rw [HYES.out (of_decide_eq_true HD.out)]
            have h4 := HR4.out
            exact ⟨_, R4, rfl, h4, HM3.less (List.sublist_cons_self _ _)⟩
  case stop =>
    rintro D cc pre W2 bs2 hpre ⟨rfl, p0, x, rfl, hx, hall, rfl⟩ HM
    have HO : Mine w W2 ((gN, IsCells [.int .i64 (n : Int)] 3) :: [(D, IsDef)]) := by
      obtain ⟨post, hpost⟩ := hpre
      have hall2 : ∀ x ∈ p0.map (toL rest), x.2 = true := by
        intro x hx
        obtain ⟨y, hy, rfl⟩ := List.mem_map.1 hx
        exact hall y hy
      have hpp := HPM.out
      rw [← hpost, List.append_assoc, List.map_append] at hpp
      have hn := HF.out.2.2.2.2.2.2
      obtain ⟨o1, k1, b1⟩ := x
      have hb : b1 = false := hx
      subst hb
      rw [← hpp, spanOf_app _ _ hall2] at hn
      have hz : spanOf (([(o1, k1, false)] ++ post).map (toL rest)) = 0 := by
        show spanOf (((rest.drop o1).take k1, false) :: post.map (toL rest)) = 0
        unfold spanOf
        rfl
      rw [hz, Nat.add_zero] at hn
      rw [← hn]
      exact HM
    clear HM HO2 hall hx hpre
    refine wpIn_exit ?_
    have hnm := HF.out.1
    have hmC := HF.out.2.2.1
    have d1 : decide ((n : Int) ≤ (m : Int)) = true := decide_eq_true (by omega)
    have d2 : decide (n ≤ m) = true := decide_eq_true hnm
    have d3 : ¬ m < n := by omega
    have d4 : decide ((m : Int) ≤ (C : Int)) = true := decide_eq_true (by omega)
    have d5 : decide (m ≤ C) = true := decide_eq_true hmC
    have d6 : ¬ C < m := by omega
    have d7 : ¬ C < n := by omega
    have d8 : n ≤ C := by omega
    have d9 : decide ((n : Int) ≤ (C : Int)) = true := decide_eq_true (by omega)
    have s1 : wrap64 ((l.length : Int) - (m : Int)) = 6 := by have := HF.out.2.1; have := HF.out.2.2.2.1; unfold wrap64; omega
    have s2 : wrap64 (6 + (n : Int)) = 6 + (n : Int) := by have := HF.out.2.2.2.1; have := HF.out.2.1; unfold wrap64; omega
    have s3 : wrap64 (6 + (n : Int) + 6) = ((n + 12 : Nat) : Int) := by have := HF.out.2.2.2.1; have := HF.out.2.1; unfold wrap64; omega
    have u1 : IntKind.i64.wrap ((l.length : Int) - (m : Int)) = 6 := by rw [IntKind.wrap_i64]; have := HF.out.2.1; have := HF.out.2.2.2.1; omega
    have u2 : IntKind.i64.wrap (6 + (n : Int)) = 6 + (n : Int) := by rw [IntKind.wrap_i64]; have := HF.out.2.2.2.1; have := HF.out.2.1; omega
    have u3 : IntKind.i64.wrap (6 + (n : Int) + 6) = (n : Int) + 12 := by rw [IntKind.wrap_i64]; have := HF.out.2.2.2.1; have := HF.out.2.1; omega
    obtain ⟨d, hd0⟩ : ∃ d, decide ((rest.drop n).take 6 = shutM) = d := ⟨_, rfl⟩
    have HD := Lib.hid hd0
    have hdl : (rest.drop n).length = m - n := by rw [List.length_drop, HF.out.2.2.2.2.1]
    have htl : (rest.take n).length = n := by rw [List.length_take, HF.out.2.2.2.2.1]; omega
    have HTL := Lib.hid htl
    refine wpIn_seq ?_
    refine wpIn_seq ?_
    by_cases hCn : C = n
    · have hdn : rest.drop n = [] := List.drop_eq_nil_of_le (by rw [HF.out.2.2.2.2.1]; omega)
      have HHP : Hid (∀ pB cB W, shutM.length ≤ cB → Below w.heap.size w W → Reads W pB (shutM.map byV) → Calls Tryd.prog 28 #[.slice (some ⟨b0, O, none⟩) (m - n) 0, .slice pB shutM.length cB] W fun e w' => e = .returned (.bool d) ∧ Below W.heap.size W w') := Lib.hid fun pB cB W hcB hW hrB => by
        have h := hasPrefix_calls (some ⟨b0, O, none⟩) pB (rest.drop n) shutM 0 cB (by rw [hdn]; exact Nat.zero_le _) W (by rw [hdn]; exact Reads.nil _ _) hrB
        rw [hdl, show shutM.length = 6 from rfl, hd0] at h
        exact h
      clear hnm hmC hd0 hdl htl hdn
      cases d
      · refine region_lawW rfl 6 [fIs (.slice (some ⟨b0, O, none⟩) m C), fIs (.int .i64 (n : Int)), fIs (.slice (some ⟨b0, O, none⟩) (m - n) 0), fRc shutM, fIs (.bool false), fIs (.bool true)] HO (by kernel_rfl) (by kernel_rfl) (by decide) (by kernel_rfl)
          (stays_cons (Stays.fIs _) (stays_cons (Stays.fIs _) (stays_cons (Stays.fIs _) (stays_cons (Stays.fRc _) (stays_cons (Stays.fIs _) (stays_cons (Stays.fIs _) stays_nil)))))) ?_
        intro vals A hA
        simp [fillL, dstOf, List.range, List.range.loop, Act.put] at hA
        subst hA
        refine ⟨⟨?_, ?_, ?_, ?_, ?_, ?_, trivial⟩, ?_⟩
        all_goals intro W hd hM hb0
        case refine_1 =>
          skip
          exact st_val rfl (by simp only [execOp]; first | (go_simp; done) | (go_simp; rfl)) rfl
        case refine_2 =>
          skip
          exact st_load1 hM rfl rfl rfl (.head _) Tryd.isAgg3 rfl rfl
        case refine_3 =>
          have v0 : vals 0 = .slice (some ⟨b0, O, none⟩) m C := hd 0 (by kernel_rfl)
          have v1 : vals 1 = .int .i64 (n : Int) := hd 1 (by kernel_rfl)
          rw [v0, v1]
          exact st_val rfl (by simp only [execOp]; first | (go_simp; done) | (go_simp; rfl)) rfl
        case refine_4 =>
          skip
          exact st_call rfl (by simp only [execOp]; first | (go_simp; done) | (go_simp; rfl)) (HMS.out W hM.below) (by rintro e w' ⟨v, rfl, hb, hf⟩; exact ⟨_, rfl, hb, hf⟩)
        case refine_5 =>
          have v2 : vals 2 = .slice (some ⟨b0, O, none⟩) (m - n) 0 := hd 2 (by kernel_rfl)
          rw [v2]
          obtain ⟨pB, cB, eB, hcB, hrB⟩ : fRc shutM (vals 3) W := hd 3 (by kernel_rfl)
          rw [eB]
          have hq := HHP.out pB cB W hcB hM.below hrB
          exact st_call rfl (by simp only [execOp]; first | (go_simp; done) | (go_simp; rfl)) hq (by rintro e w' ⟨rfl, hb⟩; exact ⟨_, rfl, hb, rfl⟩)
        case refine_6 =>
          have v4 : vals 4 = .bool false := hd 4 (by kernel_rfl)
          rw [v4]
          exact st_val rfl (by simp only [execOp]; first | (go_simp; done) | (go_simp; rfl)) rfl
        case refine_7 =>
          have v0 : vals 0 = .slice (some ⟨b0, O, none⟩) m C := hd 0 (by omega)
          have v1 : vals 1 = .int .i64 (n : Int) := hd 1 (by omega)
          have v2 : vals 2 = .slice (some ⟨b0, O, none⟩) (m - n) 0 := hd 2 (by omega)
          have v4 : vals 4 = .bool false := hd 4 (by omega)
          have v5 : vals 5 = .bool true := hd 5 (by omega)
          rw [v0, v1, v2, v4, v5]
          simp only [List.drop_succ_cons, List.drop_zero]
          have HO := hM
          clear hM hd hb0
          gi_wp2
          refine leaves_mark (bs := [(gN, IsCells [.int .i64 (n : Int)] 3)]) HO fun W3 HM3 => ?_
          exact ⟨_, results_tmp3 Tryd.results16 _ _ _, nil_takeG (HNO.out (of_decide_eq_false HD.out)) HM3.below⟩
      · refine region_lawW rfl 6 [fIs (.slice (some ⟨b0, O, none⟩) m C), fIs (.int .i64 (n : Int)), fIs (.slice (some ⟨b0, O, none⟩) (m - n) 0), fRc shutM, fIs (.bool true), fIs (.bool false)] HO (by kernel_rfl) (by kernel_rfl) (by decide) (by kernel_rfl)
          (stays_cons (Stays.fIs _) (stays_cons (Stays.fIs _) (stays_cons (Stays.fIs _) (stays_cons (Stays.fRc _) (stays_cons (Stays.fIs _) (stays_cons (Stays.fIs _) stays_nil)))))) ?_
        intro vals A hA
        simp [fillL, dstOf, List.range, List.range.loop, Act.put] at hA
        subst hA
        refine ⟨⟨?_, ?_, ?_, ?_, ?_, ?_, trivial⟩, ?_⟩
        all_goals intro W hd hM hb0
        case refine_1 =>
          skip
          exact st_val rfl (by simp only [execOp]; first | (go_simp; done) | (go_simp; rfl)) rfl
        case refine_2 =>
          skip
          exact st_load1 hM rfl rfl rfl (.head _) Tryd.isAgg3 rfl rfl
        case refine_3 =>
          have v0 : vals 0 = .slice (some ⟨b0, O, none⟩) m C := hd 0 (by kernel_rfl)
          have v1 : vals 1 = .int .i64 (n : Int) := hd 1 (by kernel_rfl)
          rw [v0, v1]
          exact st_val rfl (by simp only [execOp]; first | (go_simp; done) | (go_simp; rfl)) rfl
        case refine_4 =>
          skip
          exact st_call rfl (by simp only [execOp]; first | (go_simp; done) | (go_simp; rfl)) (HMS.out W hM.below) (by rintro e w' ⟨v, rfl, hb, hf⟩; exact ⟨_, rfl, hb, hf⟩)
        case refine_5 =>
          have v2 : vals 2 = .slice (some ⟨b0, O, none⟩) (m - n) 0 := hd 2 (by kernel_rfl)
          rw [v2]
          obtain ⟨pB, cB, eB, hcB, hrB⟩ : fRc shutM (vals 3) W := hd 3 (by kernel_rfl)
          rw [eB]
          have hq := HHP.out pB cB W hcB hM.below hrB
          exact st_call rfl (by simp only [execOp]; first | (go_simp; done) | (go_simp; rfl)) hq (by rintro e w' ⟨rfl, hb⟩; exact ⟨_, rfl, hb, rfl⟩)
        case refine_6 =>
          have v4 : vals 4 = .bool true := hd 4 (by kernel_rfl)
          rw [v4]
          exact st_val rfl (by simp only [execOp]; first | (go_simp; done) | (go_simp; rfl)) rfl
        case refine_7 =>
          have v0 : vals 0 = .slice (some ⟨b0, O, none⟩) m C := hd 0 (by omega)
          have v1 : vals 1 = .int .i64 (n : Int) := hd 1 (by omega)
          have v2 : vals 2 = .slice (some ⟨b0, O, none⟩) (m - n) 0 := hd 2 (by omega)
          have v4 : vals 4 = .bool true := hd 4 (by omega)
          have v5 : vals 5 = .bool false := hd 5 (by omega)
          rw [v0, v1, v2, v4, v5]
          simp only [List.drop_succ_cons, List.drop_zero]
          have HO := hM
          clear hM hd hb0
          gi_wp2
          refine region_lawW rfl 17 [fIs (.slice (some ⟨b0, O, none⟩) m C), fIs (.int .i64 (n : Int)), fIs (.slice (some ⟨b0, O, none⟩) n C), fOw W.heap.size (rest.take n), fIs (.slice (some ⟨b0, o0, none⟩) l.length c), fIs (.int .i64 (l.length : Int)), fIs (.slice (some ⟨b0, O, none⟩) m C), fIs (.int .i64 (m : Int)), fIs (.int .i64 6), fIs (.int .i64 (n : Int)), fIs (.int .i64 (6 + (n : Int))), fRc shutM, fIs (.int .i64 6), fIs (.int .i64 ((n + 12 : Nat) : Int)), fOw W.heap.size (rest.take n), fIs (.int .i64 ((n + 12 : Nat) : Int)), fIs (.bool true)] HO (by kernel_rfl) (by kernel_rfl) (by decide) (by kernel_rfl)
            (stays_cons (Stays.fIs _) (stays_cons (Stays.fIs _) (stays_cons (Stays.fIs _) (stays_cons (Stays.fOw _ _) (stays_cons (Stays.fIs _) (stays_cons (Stays.fIs _) (stays_cons (Stays.fIs _) (stays_cons (Stays.fIs _) (stays_cons (Stays.fIs _) (stays_cons (Stays.fIs _) (stays_cons (Stays.fIs _) (stays_cons (Stays.fRc _) (stays_cons (Stays.fIs _) (stays_cons (Stays.fIs _) (stays_cons (Stays.fOw _ _) (stays_cons (Stays.fIs _) (stays_cons (Stays.fIs _) stays_nil))))))))))))))))) ?_
          intro vals A hA
          simp [fillL, dstOf, List.range, List.range.loop, Act.put] at hA
          subst hA
          refine ⟨⟨?_, ?_, ?_, ?_, ?_, ?_, ?_, ?_, ?_, ?_, ?_, ?_, ?_, ?_, ?_, ?_, ?_, trivial⟩, ?_⟩
          all_goals intro W hd hM hb0
          case refine_1 =>
            skip
            exact st_val rfl (by simp only [execOp]; first | (go_simp; done) | (go_simp; rfl)) rfl
          case refine_2 =>
            skip
            exact st_load1 hM rfl rfl rfl (.head _) Tryd.isAgg3 rfl rfl
          case refine_3 =>
            have v0 : vals 0 = .slice (some ⟨b0, O, none⟩) m C := hd 0 (by kernel_rfl)
            have v1 : vals 1 = .int .i64 (n : Int) := hd 1 (by kernel_rfl)
            rw [v0, v1]
            exact st_val rfl (by simp only [execOp]; first | (go_simp; done) | (go_simp; rfl)) rfl
          case refine_4 =>
            have v2 : vals 2 = .slice (some ⟨b0, O, none⟩) n C := hd 2 (by kernel_rfl)
            rw [v2]
            have hq := cloneB_calls (some ⟨b0, O, none⟩) C (rest.take n) (by rw [HTL.out]; have := HF.out; omega) W (rdTake (HRR.out W hM.below) n)
            rw [HTL.out] at hq
            exact st_call rfl (by simp only [execOp]; first | (go_simp; done) | (go_simp; rfl)) hq (by rintro e w' ⟨v, R, rfl, hR, hMM⟩; exact ⟨_, rfl, hMM.below, fOw_of hR hMM hb0.size⟩)
          case refine_5 =>
            skip
            exact st_val rfl (by simp only [execOp]; first | (go_simp; done) | (go_simp; rfl)) rfl
          case refine_6 =>
            have v4 : vals 4 = .slice (some ⟨b0, o0, none⟩) l.length c := hd 4 (by kernel_rfl)
            rw [v4]
            exact st_val rfl (by simp only [execOp]; first | (go_simp; done) | (go_simp; rfl)) rfl
          case refine_7 =>
            skip
            exact st_val rfl (by simp only [execOp]; first | (go_simp; done) | (go_simp; rfl)) rfl
          case refine_8 =>
            have v6 : vals 6 = .slice (some ⟨b0, O, none⟩) m C := hd 6 (by kernel_rfl)
            rw [v6]
            exact st_val rfl (by simp only [execOp]; first | (go_simp; done) | (go_simp; rfl)) rfl
          case refine_9 =>
            have v5 : vals 5 = .int .i64 (l.length : Int) := hd 5 (by kernel_rfl)
            have v7 : vals 7 = .int .i64 (m : Int) := hd 7 (by kernel_rfl)
            rw [v5, v7]
            exact st_val rfl (by simp only [execOp]; first | (go_simp; done) | (go_simp; rfl)) rfl
          case refine_10 =>
            skip
            exact st_load1 hM rfl rfl rfl (.head _) Tryd.isAgg3 rfl rfl
          case refine_11 =>
            have v8 : vals 8 = .int .i64 6 := hd 8 (by kernel_rfl)
            have v9 : vals 9 = .int .i64 (n : Int) := hd 9 (by kernel_rfl)
            rw [v8, v9]
            exact st_val rfl (by simp only [execOp]; first | (go_simp; done) | (go_simp; rfl)) rfl
          case refine_12 =>
            skip
            exact st_call rfl (by simp only [execOp]; first | (go_simp; done) | (go_simp; rfl)) (HMS.out W hM.below) (by rintro e w' ⟨v, rfl, hb, hf⟩; exact ⟨_, rfl, hb, hf⟩)
          case refine_13 =>
            skip
            obtain ⟨pB, cB, eB, hcB, hrB⟩ : fRc shutM (vals 11) W := hd 11 (by kernel_rfl)
            rw [eB]
            exact st_val rfl (by simp only [execOp]; first | (go_simp; done) | (go_simp; rfl)) rfl
          case refine_14 =>
            have v10 : vals 10 = .int .i64 (6 + (n : Int)) := hd 10 (by kernel_rfl)
            have v12 : vals 12 = .int .i64 6 := hd 12 (by kernel_rfl)
            rw [v10, v12]
            exact st_val rfl (by simp only [execOp]; first | (go_simp; done) | (go_simp; rfl)) rfl
          case refine_15 =>
            skip
            exact st_val rfl (by simp only [execOp]; first | (go_simp; done) | (go_simp; rfl)) (hd 3 (by kernel_rfl))
          case refine_16 =>
            have v13 : vals 13 = .int .i64 ((n + 12 : Nat) : Int) := hd 13 (by kernel_rfl)
            rw [v13]
            exact st_val rfl (by simp only [execOp]; first | (go_simp; done) | (go_simp; rfl)) rfl
          case refine_17 =>
            skip
            exact st_val rfl (by simp only [execOp]; first | (go_simp; done) | (go_simp; rfl)) rfl
          case refine_18 =>
            have v15 : vals 15 = .int .i64 ((n + 12 : Nat) : Int) := hd 15 (by omega)
            have v16 : vals 16 = .bool true := hd 16 (by omega)
            rw [v15, v16]
            simp only [List.drop_succ_cons, List.drop_zero]
            have h14 : fOw _ (rest.take n) (vals 14) W := hd 14 (by omega)
            obtain ⟨R4, hR4, hM4⟩ := GRow.of_own h14 hb0
            have HO2 := HO.join hM4
            clear HO
            have HO : Mine w W (((gN, IsCells [.int .i64 (n : Int)] 3) :: R4) ++ [(D, IsDef)]) := HO2.perm (show ((gN, IsCells [.int .i64 (n : Int)] 3) :: ([(D, IsDef)] ++ R4)).Perm ((gN, IsCells [.int .i64 (n : Int)] 3) :: (R4 ++ [(D, IsDef)])) from List.Perm.cons _ List.perm_append_comm)
            have HR4 := Lib.hid hR4
            clear hM hd hb0 h14 hM4 HO2 hR4
            gi_wp2
            refine leaves_mark (bs := (gN, IsCells [.int .i64 (n : Int)] 3) :: R4) HO fun W3 HM3 => ?_
            refine ⟨_, results_tmp3 Tryd.results16 _ _ _, ?_⟩
            rw [HYES.out (of_decide_eq_true HD.out)]
            have h4 := HR4.out
            exact ⟨_, R4, rfl, h4, HM3.less (List.sublist_cons_self _ _)⟩
    · have HHP : Hid (∀ pB cB W, shutM.length ≤ cB → Below w.heap.size w W → Reads W pB (shutM.map byV) → Calls Tryd.prog 28 #[.slice (some ⟨b0, O + n, none⟩) (m - n) (C - n), .slice pB shutM.length cB] W fun e w' => e = .returned (.bool d) ∧ Below W.heap.size W w') := Lib.hid fun pB cB W hcB hW hrB => by
        have h := hasPrefix_calls (some ⟨b0, O + n, none⟩) pB (rest.drop n) shutM (C - n) cB (by rw [hdl]; omega) W (rdDrop (HRR.out W hW) n) hrB
        rw [hdl, show shutM.length = 6 from rfl, hd0] at h
        exact h
      clear hnm hmC hd0 hdl htl
      cases d
      · refine region_lawW rfl 6 [fIs (.slice (some ⟨b0, O, none⟩) m C), fIs (.int .i64 (n : Int)), fIs (.slice (some ⟨b0, O + n, none⟩) (m - n) (C - n)), fRc shutM, fIs (.bool false), fIs (.bool true)] HO (by kernel_rfl) (by kernel_rfl) (by decide) (by kernel_rfl)
          (stays_cons (Stays.fIs _) (stays_cons (Stays.fIs _) (stays_cons (Stays.fIs _) (stays_cons (Stays.fRc _) (stays_cons (Stays.fIs _) (stays_cons (Stays.fIs _) stays_nil)))))) ?_
        intro vals A hA
        simp [fillL, dstOf, List.range, List.range.loop, Act.put] at hA
        subst hA
        refine ⟨⟨?_, ?_, ?_, ?_, ?_, ?_, trivial⟩, ?_⟩
        all_goals intro W hd hM hb0
        case refine_1 =>
          skip
          exact st_val rfl (by simp only [execOp]; first | (go_simp; done) | (go_simp; rfl)) rfl
        case refine_2 =>
          skip
          exact st_load1 hM rfl rfl rfl (.head _) Tryd.isAgg3 rfl rfl
        case refine_3 =>
          have v0 : vals 0 = .slice (some ⟨b0, O, none⟩) m C := hd 0 (by kernel_rfl)
          have v1 : vals 1 = .int .i64 (n : Int) := hd 1 (by kernel_rfl)
          rw [v0, v1]
          exact st_val rfl (by simp only [execOp]; first | (go_simp; done) | (go_simp; rfl)) rfl
        case refine_4 =>
          skip
          exact st_call rfl (by simp only [execOp]; first | (go_simp; done) | (go_simp; rfl)) (HMS.out W hM.below) (by rintro e w' ⟨v, rfl, hb, hf⟩; exact ⟨_, rfl, hb, hf⟩)
        case refine_5 =>
          have v2 : vals 2 = .slice (some ⟨b0, O + n, none⟩) (m - n) (C - n) := hd 2 (by kernel_rfl)
          rw [v2]
          obtain ⟨pB, cB, eB, hcB, hrB⟩ : fRc shutM (vals 3) W := hd 3 (by kernel_rfl)
          rw [eB]
          have hq := HHP.out pB cB W hcB hM.below hrB
          exact st_call rfl (by simp only [execOp]; first | (go_simp; done) | (go_simp; rfl)) hq (by rintro e w' ⟨rfl, hb⟩; exact ⟨_, rfl, hb, rfl⟩)
        case refine_6 =>
          have v4 : vals 4 = .bool false := hd 4 (by kernel_rfl)
          rw [v4]
          exact st_val rfl (by simp only [execOp]; first | (go_simp; done) | (go_simp; rfl)) rfl
        case refine_7 =>
          have v0 : vals 0 = .slice (some ⟨b0, O, none⟩) m C := hd 0 (by omega)
          have v1 : vals 1 = .int .i64 (n : Int) := hd 1 (by omega)
          have v2 : vals 2 = .slice (some ⟨b0, O + n, none⟩) (m - n) (C - n) := hd 2 (by omega)
          have v4 : vals 4 = .bool false := hd 4 (by omega)
          have v5 : vals 5 = .bool true := hd 5 (by omega)
          rw [v0, v1, v2, v4, v5]
          simp only [List.drop_succ_cons, List.drop_zero]
          have HO := hM
          clear hM hd hb0
          gi_wp2
          refine leaves_mark (bs := [(gN, IsCells [.int .i64 (n : Int)] 3)]) HO fun W3 HM3 => ?_
          exact ⟨_, results_tmp3 Tryd.results16 _ _ _, nil_takeG (HNO.out (of_decide_eq_false HD.out)) HM3.below⟩
      · refine region_lawW rfl 6 [fIs (.slice (some ⟨b0, O, none⟩) m C), fIs (.int .i64 (n : Int)), fIs (.slice (some ⟨b0, O + n, none⟩) (m - n) (C - n)), fRc shutM, fIs (.bool true), fIs (.bool false)] HO (by kernel_rfl) (by kernel_rfl) (by decide) (by kernel_rfl)
          (stays_cons (Stays.fIs _) (stays_cons (Stays.fIs _) (stays_cons (Stays.fIs _) (stays_cons (Stays.fRc _) (stays_cons (Stays.fIs _) (stays_cons (Stays.fIs _) stays_nil)))))) ?_
        intro vals A hA
        simp [fillL, dstOf, List.range, List.range.loop, Act.put] at hA
        subst hA
        refine ⟨⟨?_, ?_, ?_, ?_, ?_, ?_, trivial⟩, ?_⟩
        all_goals intro W hd hM hb0
        case refine_1 =>
          skip
          exact st_val rfl (by simp only [execOp]; first | (go_simp; done) | (go_simp; rfl)) rfl
        case refine_2 =>
          skip
          exact st_load1 hM rfl rfl rfl (.head _) Tryd.isAgg3 rfl rfl
        case refine_3 =>
          have v0 : vals 0 = .slice (some ⟨b0, O, none⟩) m C := hd 0 (by kernel_rfl)
          have v1 : vals 1 = .int .i64 (n : Int) := hd 1 (by kernel_rfl)
          rw [v0, v1]
          exact st_val rfl (by simp only [execOp]; first | (go_simp; done) | (go_simp; rfl)) rfl
        case refine_4 =>
          skip
          exact st_call rfl (by simp only [execOp]; first | (go_simp; done) | (go_simp; rfl)) (HMS.out W hM.below) (by rintro e w' ⟨v, rfl, hb, hf⟩; exact ⟨_, rfl, hb, hf⟩)
        case refine_5 =>
          have v2 : vals 2 = .slice (some ⟨b0, O + n, none⟩) (m - n) (C - n) := hd 2 (by kernel_rfl)
          rw [v2]
          obtain ⟨pB, cB, eB, hcB, hrB⟩ : fRc shutM (vals 3) W := hd 3 (by kernel_rfl)
          rw [eB]
          have hq := HHP.out pB cB W hcB hM.below hrB
          exact st_call rfl (by simp only [execOp]; first | (go_simp; done) | (go_simp; rfl)) hq (by rintro e w' ⟨rfl, hb⟩; exact ⟨_, rfl, hb, rfl⟩)
        case refine_6 =>
          have v4 : vals 4 = .bool true := hd 4 (by kernel_rfl)
          rw [v4]
          exact st_val rfl (by simp only [execOp]; first | (go_simp; done) | (go_simp; rfl)) rfl
        case refine_7 =>
          have v0 : vals 0 = .slice (some ⟨b0, O, none⟩) m C := hd 0 (by omega)
          have v1 : vals 1 = .int .i64 (n : Int) := hd 1 (by omega)
          have v2 : vals 2 = .slice (some ⟨b0, O + n, none⟩) (m - n) (C - n) := hd 2 (by omega)
          have v4 : vals 4 = .bool true := hd 4 (by omega)
          have v5 : vals 5 = .bool false := hd 5 (by omega)
          rw [v0, v1, v2, v4, v5]
          simp only [List.drop_succ_cons, List.drop_zero]
          have HO := hM
          clear hM hd hb0
          gi_wp2
          refine region_lawW rfl 17 [fIs (.slice (some ⟨b0, O, none⟩) m C), fIs (.int .i64 (n : Int)), fIs (.slice (some ⟨b0, O, none⟩) n C), fOw W.heap.size (rest.take n), fIs (.slice (some ⟨b0, o0, none⟩) l.length c), fIs (.int .i64 (l.length : Int)), fIs (.slice (some ⟨b0, O, none⟩) m C), fIs (.int .i64 (m : Int)), fIs (.int .i64 6), fIs (.int .i64 (n : Int)), fIs (.int .i64 (6 + (n : Int))), fRc shutM, fIs (.int .i64 6), fIs (.int .i64 ((n + 12 : Nat) : Int)), fOw W.heap.size (rest.take n), fIs (.int .i64 ((n + 12 : Nat) : Int)), fIs (.bool true)] HO (by kernel_rfl) (by kernel_rfl) (by decide) (by kernel_rfl)
            (stays_cons (Stays.fIs _) (stays_cons (Stays.fIs _) (stays_cons (Stays.fIs _) (stays_cons (Stays.fOw _ _) (stays_cons (Stays.fIs _) (stays_cons (Stays.fIs _) (stays_cons (Stays.fIs _) (stays_cons (Stays.fIs _) (stays_cons (Stays.fIs _) (stays_cons (Stays.fIs _) (stays_cons (Stays.fIs _) (stays_cons (Stays.fRc _) (stays_cons (Stays.fIs _) (stays_cons (Stays.fIs _) (stays_cons (Stays.fOw _ _) (stays_cons (Stays.fIs _) (stays_cons (Stays.fIs _) stays_nil))))))))))))))))) ?_
          intro vals A hA
          simp [fillL, dstOf, List.range, List.range.loop, Act.put] at hA
          subst hA
          refine ⟨⟨?_, ?_, ?_, ?_, ?_, ?_, ?_, ?_, ?_, ?_, ?_, ?_, ?_, ?_, ?_, ?_, ?_, trivial⟩, ?_⟩
          all_goals intro W hd hM hb0
          case refine_1 =>
            skip
            exact st_val rfl (by simp only [execOp]; first | (go_simp; done) | (go_simp; rfl)) rfl
          case refine_2 =>
            skip
            exact st_load1 hM rfl rfl rfl (.head _) Tryd.isAgg3 rfl rfl
          case refine_3 =>
            have v0 : vals 0 = .slice (some ⟨b0, O, none⟩) m C := hd 0 (by kernel_rfl)
            have v1 : vals 1 = .int .i64 (n : Int) := hd 1 (by kernel_rfl)
            rw [v0, v1]
            exact st_val rfl (by simp only [execOp]; first | (go_simp; done) | (go_simp; rfl)) rfl
          case refine_4 =>
            have v2 : vals 2 = .slice (some ⟨b0, O, none⟩) n C := hd 2 (by kernel_rfl)
            rw [v2]
            have hq := cloneB_calls (some ⟨b0, O, none⟩) C (rest.take n) (by rw [HTL.out]; have := HF.out; omega) W (rdTake (HRR.out W hM.below) n)
            rw [HTL.out] at hq
            exact st_call rfl (by simp only [execOp]; first | (go_simp; done) | (go_simp; rfl)) hq (by rintro e w' ⟨v, R, rfl, hR, hMM⟩; exact ⟨_, rfl, hMM.below, fOw_of hR hMM hb0.size⟩)
          case refine_5 =>
            skip
            exact st_val rfl (by simp only [execOp]; first | (go_simp; done) | (go_simp; rfl)) rfl
          case refine_6 =>
            have v4 : vals 4 = .slice (some ⟨b0, o0, none⟩) l.length c := hd 4 (by kernel_rfl)
            rw [v4]
            exact st_val rfl (by simp only [execOp]; first | (go_simp; done) | (go_simp; rfl)) rfl
          case refine_7 =>
            skip
            exact st_val rfl (by simp only [execOp]; first | (go_simp; done) | (go_simp; rfl)) rfl
          case refine_8 =>
            have v6 : vals 6 = .slice (some ⟨b0, O, none⟩) m C := hd 6 (by kernel_rfl)
            rw [v6]
            exact st_val rfl (by simp only [execOp]; first | (go_simp; done) | (go_simp; rfl)) rfl
          case refine_9 =>
            have v5 : vals 5 = .int .i64 (l.length : Int) := hd 5 (by kernel_rfl)
            have v7 : vals 7 = .int .i64 (m : Int) := hd 7 (by kernel_rfl)
            rw [v5, v7]
            exact st_val rfl (by simp only [execOp]; first | (go_simp; done) | (go_simp; rfl)) rfl
          case refine_10 =>
            skip
            exact st_load1 hM rfl rfl rfl (.head _) Tryd.isAgg3 rfl rfl
          case refine_11 =>
            have v8 : vals 8 = .int .i64 6 := hd 8 (by kernel_rfl)
            have v9 : vals 9 = .int .i64 (n : Int) := hd 9 (by kernel_rfl)
            rw [v8, v9]
            exact st_val rfl (by simp only [execOp]; first | (go_simp; done) | (go_simp; rfl)) rfl
          case refine_12 =>
            skip
            exact st_call rfl (by simp only [execOp]; first | (go_simp; done) | (go_simp; rfl)) (HMS.out W hM.below) (by rintro e w' ⟨v, rfl, hb, hf⟩; exact ⟨_, rfl, hb, hf⟩)
          case refine_13 =>
            skip
            obtain ⟨pB, cB, eB, hcB, hrB⟩ : fRc shutM (vals 11) W := hd 11 (by kernel_rfl)
            rw [eB]
            exact st_val rfl (by simp only [execOp]; first | (go_simp; done) | (go_simp; rfl)) rfl
          case refine_14 =>
            have v10 : vals 10 = .int .i64 (6 + (n : Int)) := hd 10 (by kernel_rfl)
            have v12 : vals 12 = .int .i64 6 := hd 12 (by kernel_rfl)
            rw [v10, v12]
            exact st_val rfl (by simp only [execOp]; first | (go_simp; done) | (go_simp; rfl)) rfl
          case refine_15 =>
            skip
            exact st_val rfl (by simp only [execOp]; first | (go_simp; done) | (go_simp; rfl)) (hd 3 (by kernel_rfl))
          case refine_16 =>
            have v13 : vals 13 = .int .i64 ((n + 12 : Nat) : Int) := hd 13 (by kernel_rfl)
            rw [v13]
            exact st_val rfl (by simp only [execOp]; first | (go_simp; done) | (go_simp; rfl)) rfl
          case refine_17 =>
            skip
            exact st_val rfl (by simp only [execOp]; first | (go_simp; done) | (go_simp; rfl)) rfl
          case refine_18 =>
            have v15 : vals 15 = .int .i64 ((n + 12 : Nat) : Int) := hd 15 (by omega)
            have v16 : vals 16 = .bool true := hd 16 (by omega)
            rw [v15, v16]
            simp only [List.drop_succ_cons, List.drop_zero]
            have h14 : fOw _ (rest.take n) (vals 14) W := hd 14 (by omega)
            obtain ⟨R4, hR4, hM4⟩ := GRow.of_own h14 hb0
            have HO2 := HO.join hM4
            clear HO
            have HO : Mine w W (((gN, IsCells [.int .i64 (n : Int)] 3) :: R4) ++ [(D, IsDef)]) := HO2.perm (show ((gN, IsCells [.int .i64 (n : Int)] 3) :: ([(D, IsDef)] ++ R4)).Perm ((gN, IsCells [.int .i64 (n : Int)] 3) :: (R4 ++ [(D, IsDef)])) from List.Perm.cons _ List.perm_append_comm)
            have HR4 := Lib.hid hR4
            clear hM hd hb0 h14 hM4 HO2 hR4
            gi_wp2
            refine leaves_mark (bs := (gN, IsCells [.int .i64 (n : Int)] 3) :: R4) HO fun W3 HM3 => ?_
            refine ⟨_, results_tmp3 Tryd.results16 _ _ _, ?_⟩
            rw [HYES.out (of_decide_eq_true HD.out)]
            have h4 := HR4.out
            exact ⟨_, R4, rfl, h4, HM3.less (List.sublist_cons_self _ _)⟩
theorem takeYes_calls (b0 o0 : Nat) (c : Nat) (l : List UInt8) (hc : l.length ≤ c) (h5 : l.length ≤ 100000) (w : World) (hT : Tab w) (hr : Reads w (some ⟨b0, o0, none⟩) (l.map byV)) (hp : l.take 6 = openM) :
    Calls Tryd.prog 16 #[.slice (some ⟨b0, o0, none⟩) l.length c] w (TakeAns (takeV l) w) := (takeYesG_calls b0 o0 c l hc h5 w hT hr hp).mono fun _ _ h => h.ans
end Go.Proofs.YtcglbfpmcpammaaDoor
end
