/- P: texts run together by shake.py: KitG1 PuU PaN PaV. -/
import Derived.ArgAppend
import Derived.Below
import Derived.BigQuiet
import Derived.Deep.AppendLies
import Derived.Deep.CutBlock
import Derived.Deep.DeepCutAuto
import Derived.Deep.Draws
import Derived.Deep.LoopGhost
import Derived.Deep.OwnRows
import Derived.Deep.Quiet
import Derived.Deep.QuietTactic
import Derived.Deep.RegionHeld3
import Derived.KernelRfl
import Derived.Laws.AppendOwn
import Derived.Laws.AppendOwnNone
import Derived.Laws.BitsAllLaws
import Derived.Laws.BitsLemmas
import Derived.Laws.BytesArg
import Derived.Laws.Concat
import Derived.Laws.CopyRow
import Derived.Laws.IdiomCopy
import Derived.Laws.IdiomStrings
import Derived.Laws.MakeOwn
import Derived.Laws.OwnMore
import Derived.Laws.Rows
import Derived.Laws.Slices
import Derived.Laws.StructEq
import Derived.Laws.Tables
import Derived.Lib.AppendIntMem
import Derived.Lib.AppendStr
import Derived.Lib.AppendZeros
import Derived.Lib.Bytes
import Derived.Lib.ConvBytes
import Derived.Lib.Hide
import Derived.Lib.ItoaLen
import Derived.Lib.ItoaNum
import Derived.Lib.LaidTab
import Derived.Lib.OthersKept
import Derived.Lib.SliceRun
import Derived.Lib.TrimU
import Derived.LoopIn
import Derived.MapKept
import Derived.Maps.AppendAt
import Derived.Orders
import Derived.OrdersHeld
import Derived.OrdersIn
import Derived.OwnWalk
import Derived.RangeFuncCalls
import Derived.RangeFuncNested
import Derived.RangeFuncWrites
import Derived.RowKit
import Derived.RowKit3
import Derived.Shelf.Bytes.SlEqualAll
import Derived.Shelf.Bytes.SlSearch0
import Derived.Shelf.Bytes.SlSmallAll
import Derived.Shelf.Bytes.Small
import Derived.Shelf.LaysM
import Derived.Shelf.Slices.Empties2
import Derived.Shelf.Slices.Equal
import Derived.Shelf.Small.Strs
import Derived.Shelf.Small.Utf8
import Derived.Shelf.Strconv.Itoa0
import Derived.Shelf.Strconv.Itoa1
import Derived.Shelf.Strconv.Itoa2
import Derived.Shelf.Strconv.Itoa3
import Derived.Shelf.Strings.Builder1
import Derived.Shelf.Strings.Builder2
import Derived.Shelf.Strings.Builder2Cap
import Derived.Shelf.Strings.BuilderCap
import Derived.Shelf.Strings.BuilderF
import Derived.Shelf.Strings.BuilderK
import Derived.Shelf.Strings.OnBuilder
import Derived.Shelf.Strings.Runes
import Derived.Shelf.Strings.Search1
import Derived.Still
import Derived.Tactics
import Derived.TacticsIn
import Derived.Test.YtcglbfpmcpammaaDoorProg
import Derived.WalkKit
import Derived.WideLaws
import Derived.Test.YtcglbfpmcpammaaDoorZP1
import Derived.Test.YtcglbfpmcpammaaDoorZP2
import Derived.Test.YtcglbfpmcpammaaDoorZP3
import Derived.Test.YtcglbfpmcpammaaDoorZP4
import Derived.Test.YtcglbfpmcpammaaDoorZP5
import Derived.Test.YtcglbfpmcpammaaDoorZP6
import Derived.Test.YtcglbfpmcpammaaDoorZP7
import Derived.Test.YtcglbfpmcpammaaDoorZP8
import Derived.Test.YtcglbfpmcpammaaDoorZP9
import Derived.Test.YtcglbfpmcpammaaDoorZP10
import Derived.Test.YtcglbfpmcpammaaDoorZP11
import Derived.Test.YtcglbfpmcpammaaDoorZP12
import Derived.Test.YtcglbfpmcpammaaDoorZP14
import Derived.Test.YtcglbfpmcpammaaDoorZP17
section
namespace Go.Proofs.YtcglbfpmcpammaaDoor.Kit
set_option linter.unusedVariables false
set_option linter.unusedSimpArgs false
open Go Go.RowKit Go.Proofs.YtcglbfpmcpammaaDoorW.PrintWords
section
variable {P : Program} {ops : Array Oper} {Q : Exit → Act → World → Prop} {a : Act} {w W0 : World} {rest : List Oper} {o : Oper} {bs b0 R : Res} {cs : List Value} {T : TypeId} {v : Value}
theorem own_append1 {s x : Operand} {t : TypeId} {z u : Value} {bytes gl : Nat} {xs : List Value} (HO : Mine W0 w bs) (hR : GRow T v xs R) (htl : Tl bs R b0) (ho : o.op = .call { callee := .builtin .append, args := #[s, x], argTypes := #[t, t] })
    (hgd : Region.wanted o (yielded ops a.tmps) = true) (hs : EvalTo a s v) (hx : EvalTo a x (.slice (some ⟨gl, 0, none⟩) 1 1)) (hm : (gl, IsCells [u] T) ∈ bs) (ht : P.underlying t = some (.slice T)) (hinfo : (P.info? T).map (fun i => (i.zero, i.size, i.bytes)) = some (some z, 1, bytes)) (hzs : z.cells.size = 1)
    (h1 : u.oneCell' = true) (h63 : xs.length + 1 ≤ maxLen ∧ (xs.length + 1) * bytes ≤ 140737488355328)
    (h : ∀ p' n' c' w' R', GRow T (.slice p' n' c') (xs ++ [u]) R' → Mine W0 w' (b0 ++ R') → wpList P ops Q rest (a.put o.dst (.slice p' n' c')) w') : wpList P ops Q (o :: rest) a w :=
  own_append HO hR htl ho hgd hs hx ht hinfo hzs (news := [u]) rfl (Reads.row (n := 1) (HO.at hm) (by simp)) (by simpa using h1) h63.1 h63.2 h
end
end Go.Proofs.YtcglbfpmcpammaaDoor.Kit
end
section
namespace Go.Proofs.YtcglbfpmcpammaaDoor
set_option linter.unusedVariables false
set_option linter.unusedSimpArgs false
theorem cleanL_clean (l : List UInt8) : cleanL (cleanL l) = cleanL l := (cl_clean l).clean
theorem allU_nil : allU [] = some [] := rfl
theorem all_cl : ∀ (f : Nat) (l : List UInt8), l.length ≤ f → ∀ k, allU l = some k → (∀ r ∈ k, cleanR r = true) → Cl l
  | 0, l, h, k, _, _ => by
    have : l = [] := List.eq_nil_of_length_eq_zero (by omega)
    subst this; exact .nil
  | f + 1, l, h, k, hk, hc => by
    by_cases hl : l = []
    · subst hl; exact .nil
    · have h0 : 0 < l.length := List.length_pos_iff.2 hl
      rw [allU_cons hl] at hk
      obtain ⟨⟨r, n⟩, ht⟩ : ∃ t, takeU l = t := ⟨_, rfl⟩
      rw [ht] at hk
      split at hk
      · cases hk
      · rename_i hn
        simp at hn
        have hn' : 0 < n := Nat.pos_of_ne_zero hn
        obtain ⟨k2, hk2, rfl⟩ := Option.map_eq_some_iff.1 hk
        have hs := takeU_spec ht
        have := all_cl f (l.drop n) (by simp; omega) k2 hk2 (fun q hq => hc q (.tail _ hq))
        have e : l = l.take n ++ l.drop n := (List.take_append_drop n l).symm
        rw [e]
        refine .cons (r := r) (by simp; omega) ?_ (hc r (.head _)) this
        rw [takeU_take ht hn']
        congr 1
        simp; omega
theorem clean_iff (l : List UInt8) : cleanL l = l ↔ ∃ k, allU l = some k ∧ ∀ r ∈ k, cleanR r = true := by
  constructor
  · intro h
    have := cl_clean l
    rw [h] at this
    exact this.all
  · rintro ⟨k, hk, hc⟩
    exact (all_cl _ l (Nat.le_refl _) k hk hc).clean
end Go.Proofs.YtcglbfpmcpammaaDoor
end
section
namespace Go.Proofs.YtcglbfpmcpammaaDoor
set_option linter.unusedVariables false
set_option linter.unusedSimpArgs false
open Go.RowKit Kit G Go.Proofs.YtcglbfpmcpammaaDoorW.PrintWords Go.Proofs.YtcglbfpmcpammaaDoorW.PrintMore
def iV (x : Nat) : Value := .int .i64 (x : Int)
def allV (l : List UInt8) : List Nat × Bool := match allU l with
  | some k => (k, true)
  | none => ([], false)
attribute [local irreducible] wpList Calls wpQuiet
set_option maxRecDepth 100000 in
set_option maxHeartbeats 8000000 in
theorem all_calls (A : Option Addr) (c : Nat) (l : List UInt8) (hc : l.length ≤ c) (h5 : l.length ≤ 100000) (w : World) (hr : Reads w A (l.map byV)) : Calls Tryd.prog 20 #[.slice A l.length c] w fun e w' => ∃ v R, e = .returned (.tuple #[v, .bool (allV l).2]) ∧ GRow 3 v ((allV l).1.map iV) R ∧ Mine w w' R := by
  have HO := Mine.start w
  obtain ⟨b0, o0, hA⟩ := slice_at hr
  obtain ⟨V, hV⟩ : ∃ V, allV l = V := ⟨_, rfl⟩
  rw [hV]
  have HR := Lib.hid hr
  have HV := Lib.hid hV
  obtain ⟨m, hm⟩ : ∃ m, l.length = m := ⟨_, rfl⟩
  have HM := Lib.hid hm
  rw [hm] at hc h5 ⊢
  clear hr hV
  go_enter Tryd.func20, Tryd.ntmps20
  go_wp2
  go_loopw [4, 5] (fun a i wr => ∃ k : Nat, k ≤ m ∧ i = .int .i64 k ∧ ∃ p q cc R out, a = .slice p q cc ∧ GRow 3 (.slice p q cc) (List.map iV out) R ∧ allU l = (allU (l.drop k)).map (out ++ ·) ∧ out.length ≤ k ∧ Mine w wr R) (fun _ i _ => m - (intOf i).toNat)
  case atStart => exact ⟨0, Nat.zero_le _, rfl, none, 0, 0, [], [], rfl, GRow.nil _, by simp, Nat.le_refl _, HO⟩
  case round =>
    obtain ⟨k, hk, rfl, p, q, cc, R, out, rfl, hG, hal, hol, HO2⟩ := hrel
    clear HO
    have HO := HO2
    clear HO2
    by_cases hlt : k < m
    · have hAs : A = some ⟨b0, o0, none⟩ := hA.resolve_left (fun e => by rw [e] at hm; simp at hm; omega)
      subst hAs
      obtain ⟨x, hx⟩ : ∃ x, l.drop k = x := ⟨_, rfl⟩
      have hxl : x.length = m - k := by rw [← hx, List.length_drop, hm]
      have hne : x ≠ [] := fun e => by rw [e] at hxl; simp at hxl; omega
      rw [hx, allU_cons hne] at hal
      obtain ⟨⟨r, t⟩, ht⟩ : ∃ t, takeU x = t := ⟨_, rfl⟩
      rw [ht] at hal
      have hts := takeU_spec ht
      have hdx : l.drop (k + t) = x.drop t := by rw [← hx, List.drop_drop]
      have htk := fun W (hW : Below w.heap.size w W) => refTake_calls (some ⟨b0, o0 + k, none⟩) (c - k) x (by omega) (by omega) W (by rw [← hx]; exact rdDrop (HR.out.below hW) k)
      rw [ht, hxl] at htk
      have HTK := Lib.hid htk
      have HGR := Lib.hid hG
      have d1 : decide ((k : Int) < (m : Int)) = true := decide_eq_true (by omega)
      have d2 : k ≤ m := hk
      have d3 : ¬ c = k := by omega
      have d4 : ¬ m < k := by omega
      have d5 : ¬ c < k := by omega
      have d8 : m ≤ c := hc
      have d10 : m ≤ 100000 := h5
      have d11 : t ≤ m - k := by omega
      have d13 : k < m := hlt
      have d14 : decide (k < m) = true := decide_eq_true hlt
      by_cases ht0 : t = 0
      · subst ht0
        have hv : V = ([], false) := by
          rw [← HV.out]
          unfold allV
          rw [hal]
          rfl
        have HVV := Lib.hid hv
        clear hal hxl hne ht hts hdx htk hG hol hx hm hA hv
        go_wp2_with (go_at_call 22; refine (HTK.out _ HO.below).mono ?_; rintro eN wN ⟨rfl, hbN⟩; have HON := HO.call hbN; clear HO hbN; have HO := HON; clear HON)
        refine bodyPost_ret (results_tmp2 rfl _ _ _) rfl ?_
        rw [HVV.out]
        exact ⟨_, [], rfl, GRow.nil _, HO.less (List.nil_sublist _)⟩
      · have b1 : ((t : Int) == 0) = false := beq_eq_false_iff_ne.2 (by omega)
        have b2 : ¬ t = 0 := ht0
        have hst : allU l = (allU (l.drop (k + t))).map ((out ++ [r]) ++ ·) := by
          rw [hal, if_neg ht0, hdx, Option.map_map]
          congr 1
          funext z
          simp
        have HST := Lib.hid hst
        have H65 : Hid ((out.map iV).length + 1 ≤ maxLen ∧ ((out.map iV).length + 1) * 8 ≤ 140737488355328) := Lib.hid (by rw [List.length_map]; unfold maxLen; omega)
        have HOL := Lib.hid hol
        have u1 : IntKind.i64.wrap ((k : Int) + (t : Int)) = (k : Int) + (t : Int) := by rw [IntKind.wrap_i64]; omega
        clear hal hxl hne ht hts hdx htk hG hol hx hm hA hst ht0
        go_wp2_with (first
          | (go_at_call 22; refine (HTK.out _ HO.below).mono ?_; rintro eN wN ⟨rfl, hbN⟩; have HON := HO.call hbN; clear HO hbN; have HO := HON; clear HON)
          | (first
      | ((with_reducible refine gate ?_); (first
      | ((with_reducible refine gateAt (N := 23) rfl ?_); refine own_litF HO rfl (n := 1) (cs := [.int .i64 (r : Int)]) (T := 3) (by first | (go_simp; done) | (go_simp; rfl)) ?_; clear HO; intro gE wN hggE HO; (try simp only [Act.put, List.setIfInBounds_toArray, List.set_cons_zero, List.set_cons_succ]))
      | ((with_reducible refine gateAt (N := 24) rfl ?_); refine own_append1 (T := 3) (t := 35) (z := .int .i64 0) (bytes := 8) HO HGR.out (by repeat (first | exact Tl.here | exact Tl.app | apply Tl.cons)) rfl rfl (.tmp rfl) (.tmp rfl) (by first | exact .head _ | exact .tail _ (.head _) | exact .tail _ (.tail _ (.head _)) | exact .tail _ (.tail _ (.tail _ (.head _))) | exact .tail _ (.tail _ (.tail _ (.tail _ (.head _)))) | exact .tail _ (.tail _ (.tail _ (.tail _ (.tail _ (.head _))))) | exact .tail _ (.tail _ (.tail _ (.tail _ (.tail _ (.tail _ (.head _)))))) | exact .tail _ (.tail _ (.tail _ (.tail _ (.tail _ (.tail _ (.tail _ (.head _)))))))) Tryd.underlying35 (by kernel_rfl) (by rfl) (by rfl) H65.out ?_; clear HO; intro p2 n2 c2 wN R2 hR2 HO; (simp only [List.nil_append, List.cons_append] at HO); (try simp only [Act.put, List.setIfInBounds_toArray, List.set_cons_zero, List.set_cons_succ]))))))
        go_roundw
        case rel => exact ⟨k + t, by omega, by go_num, p2, n2, c2, R2, out ++ [r], rfl, by rw [List.map_append]; exact hR2, HST.out, by rw [List.length_append, List.length_singleton]; have := HOL.out; omega, HO.less (List.sublist_cons_self _ _)⟩
        case measure => simp [intOf]; try omega
    · have d13 : decide ((k : Int) < (m : Int)) = false := decide_eq_false (by omega)
      have d14 : ¬ k < m := hlt
      have hv : V = (out, true) := by
        rw [← HV.out]
        unfold allV
        rw [hal, List.drop_eq_nil_of_le (by omega), allU_nil, Option.map_some, List.append_nil]
      have HVV := Lib.hid hv
      clear hal hA hol hv
      go_wp2
      refine bodyPost_ret (results_tmp2 rfl _ _ _) rfl ?_
      rw [HVV.out]
      exact ⟨_, R, rfl, hG, HO⟩
end Go.Proofs.YtcglbfpmcpammaaDoor
end
section
namespace Go.Proofs.YtcglbfpmcpammaaDoor
set_option linter.unusedVariables false
set_option linter.unusedSimpArgs false
open Go.RowKit Kit G Go.Proofs.YtcglbfpmcpammaaDoorW.PrintWords Go.Proofs.YtcglbfpmcpammaaDoorW.PrintMore
theorem safe_iff (l : List UInt8) : ((allV l).2 && (allV l).1.all cleanR) = decide (cleanL l = l) := by
  have h := clean_iff l
  unfold allV
  cases ha : allU l with
  | none =>
    rw [ha] at h
    rw [decide_eq_false (fun e => by obtain ⟨k, hk, _⟩ := h.1 e; cases hk)]
    rfl
  | some k =>
    rw [ha] at h
    by_cases hk : k.all cleanR = true
    · rw [decide_eq_true (h.2 ⟨k, rfl, fun r hr => List.all_eq_true.1 hk r hr⟩)]
      simp [hk]
    · rw [decide_eq_false (fun e => by obtain ⟨k', hk', hc⟩ := h.1 e; cases hk'; exact hk (List.all_eq_true.2 hc))]
      simp [hk]
theorem cleanR_is (x : Nat) : cleanR x = true → x = 9 ∨ x = 10 ∨ x = 13 ∨ (32 ≤ x ∧ x < 127) ∨ 159 < x := by
  unfold cleanR
  simp
  omega
theorem iV_cell {w : World} {p : Option Addr} {K : List Nat} (h : Reads w p (K.map iV)) {k : Nat} (hk : k < K.length) : ∃ b o, p = some ⟨b, o, none⟩ ∧ w.cell? ⟨b, o + k, none⟩ = some (.int .i64 ((K[k]'hk : Nat) : Int)) := by
  obtain ⟨b, o, he, hc⟩ := h k (iV (K[k]'hk)) (by rw [List.getElem?_map, List.getElem?_eq_getElem hk]; rfl)
  exact ⟨b, o, he, hc⟩
theorem all_step (K : List Nat) {j : Nat} (h : j < K.length) : (K.take (j + 1)).all cleanR = ((K.take j).all cleanR && cleanR (K[j]'h)) := by
  rw [List.take_succ_eq_append_getElem h, List.all_append]
  simp
theorem wrap_j {n k : Nat} (hk : k < n) (hn : n ≤ maxLen) : wrap64 ((k : Int) + 1) = ((k + 1 : Nat) : Int) := by
  unfold maxLen at hn
  unfold wrap64
  omega
theorem meas_j {n k : Nat} (h : wrap64 ((k : Int) + 1) = ((k + 1 : Nat) : Int)) (hk : k < n) : n - (intOf (.int .i64 (wrap64 ((k : Int) + 1)))).toNat < n - (intOf (.int .i64 (k : Int))).toNat := by
  rw [h]
  show n - (((k + 1 : Nat) : Int)).toNat < n - ((k : Int)).toNat
  omega
attribute [local irreducible] wpList Calls wpQuiet
set_option maxRecDepth 100000 in
set_option maxHeartbeats 16000000 in
theorem pasteSafe_calls (A : Option Addr) (n c : Nat) (l : List UInt8) (hl : l.length = n) (hc : n ≤ c) (w : World) (hT : Tab w) (hr : Reads w A (l.map byV)) : Calls Tryd.prog 5 #[.slice A n c] w fun e w' => e = .returned (.bool true) ∧ Below w.heap.size w w' := by
  have HO := Mine.start w
  have HT := Lib.hid fun W (hW : Below w.heap.size w W) => Tab.below hT hW
  by_cases h300 : 300 < n
  · have d1 : decide ((300 : Int) < (n : Int)) = true := decide_eq_true (by omega)
    have d2 : 300 < n := h300
    clear hT hr hc hl
    go_enter Tryd.func5, Tryd.ntmps5
    go_wp2_with (go_at_call 9; refine (awake17_calls _ (HT.out _ HO.below)).mono ?_; rintro eN wN ⟨rfl, hbN⟩; have HON := HO.call hbN; clear HO hbN; have HO := HON; clear HON)
    go_ret
    exact ⟨rfl, HO.below⟩
  have d1 : decide ((300 : Int) < (n : Int)) = false := decide_eq_false (by omega)
  have d2 : ¬ 300 < n := h300
  obtain ⟨N, hN⟩ : ∃ N, (cleanL l).length = N := ⟨_, rfl⟩
  have hNn : N ≤ n := by have := cleanL_le l; omega
  obtain ⟨K, hK, hKc⟩ := (cl_clean l).all
  have hVK : allV (cleanL l) = (K, true) := by unfold allV; rw [hK]
  obtain ⟨⟨K2, was⟩, hV2⟩ : ∃ V, allV l = V := ⟨_, rfl⟩
  obtain ⟨e, he⟩ : ∃ e, decide (cleanL l = l) = e := ⟨_, rfl⟩
  have hsafe : (was && K2.all cleanR) = e := by
    have := safe_iff l
    rw [hV2, he] at this
    exact this
  have HCA := Lib.hid fun W (hW : Below w.heap.size w W) => pasteClean_calls A c l (by omega) (by omega) W (hr.below hW)
  have hcc := fun (p : Option Addr) (cc : Nat) W (hcc : N ≤ cc) (hrW : Reads W p ((cleanL l).map byV)) => pasteClean_calls p cc (cleanL l) (by omega) (by omega) W hrW
  have hal := fun (p : Option Addr) (cc : Nat) W (hcc : N ≤ cc) (hrW : Reads W p ((cleanL l).map byV)) => all_calls p cc (cleanL l) (by omega) (by omega) W hrW
  have hab := fun W (hW : Below w.heap.size w W) => all_calls A c l (by omega) (by omega) W (hr.below hW)
  rw [hN, cleanL_clean] at hcc
  rw [hN, hVK] at hal
  rw [hV2, hl] at hab
  rw [hl] at HCA
  have HCC := Lib.hid hcc
  have HAL := Lib.hid hal
  have HAB := Lib.hid hab
  have HNN := Lib.hid hN
  have HMM := Lib.hid hl
  have HEE := Lib.hid he
  have HSF := Lib.hid hsafe
  have HKC := Lib.hid hKc
  have HR := Lib.hid fun W (hW : Below w.heap.size w W) => hr.below hW
  have f1 : decide ((N : Int) ≤ (n : Int)) = true := decide_eq_true (by omega)
  have f2 : N ≤ n := hNn
  clear hT hr hc hl hcc hal hab hN hNn hK hKc hVK hV2 he hsafe
  go_enter Tryd.func5, Tryd.ntmps5
  go_wp2_with (first
    | (go_at_call 9; refine (awake17_calls _ (HT.out _ HO.below)).mono ?_; rintro eN wN ⟨rfl, hbN⟩; have HON := HO.call hbN; clear HO hbN; have HO := HON; clear HON)
    | (go_at_call 10; refine (HCA.out _ HO.below).mono ?_; rintro eN wN ⟨v, RC, rfl, hRC, HM⟩; obtain ⟨pC, nC, cC, rfl⟩ := hRC.form; obtain ⟨hnC, hrC, hqC, _⟩ := hRC.readsT HM .here; rw [List.length_map, HNN.out] at hnC hqC; have HRC := Lib.hid hRC; have HQC := Lib.hid hqC; clear hRC hrC hqC; subst hnC; have HON := HO.join HM; clear HO HM; have HO := HON; clear HON; (try simp only [List.nil_append, List.cons_append] at HO))
    | (go_at_call 20; refine (HAL.out pC cC _ HQC.out (HRC.out.readsT HO .here).2.1).mono ?_; rintro eN wN ⟨v, RL, rfl, hRL, HM⟩; obtain ⟨pL, nL, cL, rfl⟩ := hRL.form; have hnL := hRL.len; rw [List.length_map] at hnL; have HRL := Lib.hid hRL; have HNL := Lib.hid hnL; clear hRL hnL; have HON := HO.join HM; clear HO HM; have HO := HON; clear HON))
  go_loopw [7] (fun i wr => ∃ k : Nat, k ≤ nL ∧ i = .int .i64 k ∧ Mine w wr (RC ++ RL)) (fun i _ => nL - (intOf i).toNat)
  case atStart => exact ⟨0, Nat.zero_le _, rfl, HO⟩
  case round =>
    obtain ⟨k, hk, rfl, HO2⟩ := hrel
    clear HO
    have HO := HO2
    clear HO2
    by_cases hlt : k < nL
    · have hkK : k < K.length := by rw [← HNL.out]; exact hlt
      obtain ⟨hq1, hq2, hq3, hq4⟩ := HRL.out.reads (bs := []) (HO.less (List.sublist_append_right _ _))
      have HS := Lib.hid (wrap_j hlt (by rw [List.length_map] at hq1 hq3; rw [hq1]; exact Nat.le_trans hq3 hq4))
      obtain ⟨b, o, hp, hcell⟩ := iV_cell hq2 hkK
      clear hq1 hq2 hq3 hq4
      subst hp
      have hx := HKC.out _ (List.getElem_mem hkK)
      generalize (K[k]'hkK) = x at hcell hx
      have g1 : decide ((k : Int) < (nL : Int)) = true := decide_eq_true (by omega)
      have g2 : k < nL := hlt
      rcases cleanR_is x hx with h | h | h | h | h
      · have e9 : ((x : Int) == 9) = true := by rw [h]; rfl
        have e9n : ((x : Int) != 9) = false := by rw [bne, e9]; rfl
        have e10 : ((x : Int) == 10) = false := by exact beq_eq_false_iff_ne.2 (by omega)
        have e10n : ((x : Int) != 10) = true := by rw [bne, e10]; rfl
        have e13 : ((x : Int) == 13) = false := by exact beq_eq_false_iff_ne.2 (by omega)
        have e13n : ((x : Int) != 13) = true := by rw [bne, e13]; rfl
        have g32 : decide ((x : Int) < 32) = true := decide_eq_true (by omega)
        have k32 : decide ((32 : Int) ≤ (x : Int)) = false := decide_eq_false (by omega)
        have g127 : decide ((x : Int) < 127) = true := decide_eq_true (by omega)
        have k127 : decide ((127 : Int) ≤ (x : Int)) = false := decide_eq_false (by omega)
        have g159 : decide ((159 : Int) < (x : Int)) = false := decide_eq_false (by omega)
        have k159 : decide ((x : Int) ≤ 159) = true := decide_eq_true (by omega)
        clear h hx
        go_wp2
        go_roundw
        case rel => exact ⟨k + 1, g2, congrArg (Value.int .i64) HS.out, HO⟩
        case measure => exact meas_j HS.out g2
      · have e9 : ((x : Int) == 9) = false := by exact beq_eq_false_iff_ne.2 (by omega)
        have e9n : ((x : Int) != 9) = true := by rw [bne, e9]; rfl
        have e10 : ((x : Int) == 10) = true := by rw [h]; rfl
        have e10n : ((x : Int) != 10) = false := by rw [bne, e10]; rfl
        have e13 : ((x : Int) == 13) = false := by exact beq_eq_false_iff_ne.2 (by omega)
        have e13n : ((x : Int) != 13) = true := by rw [bne, e13]; rfl
        have g32 : decide ((x : Int) < 32) = true := decide_eq_true (by omega)
        have k32 : decide ((32 : Int) ≤ (x : Int)) = false := decide_eq_false (by omega)
        have g127 : decide ((x : Int) < 127) = true := decide_eq_true (by omega)
        have k127 : decide ((127 : Int) ≤ (x : Int)) = false := decide_eq_false (by omega)
        have g159 : decide ((159 : Int) < (x : Int)) = false := decide_eq_false (by omega)
        have k159 : decide ((x : Int) ≤ 159) = true := decide_eq_true (by omega)
        clear h hx
        go_wp2
        go_roundw
        case rel => exact ⟨k + 1, g2, congrArg (Value.int .i64) HS.out, HO⟩
        case measure => exact meas_j HS.out g2
      · have e9 : ((x : Int) == 9) = false := by exact beq_eq_false_iff_ne.2 (by omega)
        have e9n : ((x : Int) != 9) = true := by rw [bne, e9]; rfl
        have e10 : ((x : Int) == 10) = false := by exact beq_eq_false_iff_ne.2 (by omega)
        have e10n : ((x : Int) != 10) = true := by rw [bne, e10]; rfl
        have e13 : ((x : Int) == 13) = true := by rw [h]; rfl
        have e13n : ((x : Int) != 13) = false := by rw [bne, e13]; rfl
        have g32 : decide ((x : Int) < 32) = true := decide_eq_true (by omega)
        have k32 : decide ((32 : Int) ≤ (x : Int)) = false := decide_eq_false (by omega)
        have g127 : decide ((x : Int) < 127) = true := decide_eq_true (by omega)
        have k127 : decide ((127 : Int) ≤ (x : Int)) = false := decide_eq_false (by omega)
        have g159 : decide ((159 : Int) < (x : Int)) = false := decide_eq_false (by omega)
        have k159 : decide ((x : Int) ≤ 159) = true := decide_eq_true (by omega)
        clear h hx
        go_wp2
        go_roundw
        case rel => exact ⟨k + 1, g2, congrArg (Value.int .i64) HS.out, HO⟩
        case measure => exact meas_j HS.out g2
      · have e9 : ((x : Int) == 9) = false := by exact beq_eq_false_iff_ne.2 (by omega)
        have e9n : ((x : Int) != 9) = true := by rw [bne, e9]; rfl
        have e10 : ((x : Int) == 10) = false := by exact beq_eq_false_iff_ne.2 (by omega)
        have e10n : ((x : Int) != 10) = true := by rw [bne, e10]; rfl
        have e13 : ((x : Int) == 13) = false := by exact beq_eq_false_iff_ne.2 (by omega)
        have e13n : ((x : Int) != 13) = true := by rw [bne, e13]; rfl
        have g32 : decide ((x : Int) < 32) = false := decide_eq_false (by omega)
        have k32 : decide ((32 : Int) ≤ (x : Int)) = true := decide_eq_true (by omega)
        have g127 : decide ((x : Int) < 127) = true := decide_eq_true (by omega)
        have k127 : decide ((127 : Int) ≤ (x : Int)) = false := decide_eq_false (by omega)
        have g159 : decide ((159 : Int) < (x : Int)) = false := decide_eq_false (by omega)
        have k159 : decide ((x : Int) ≤ 159) = true := decide_eq_true (by omega)
        clear h hx
        go_wp2
        go_roundw
        case rel => exact ⟨k + 1, g2, congrArg (Value.int .i64) HS.out, HO⟩
        case measure => exact meas_j HS.out g2
      · have e9 : ((x : Int) == 9) = false := by exact beq_eq_false_iff_ne.2 (by omega)
        have e9n : ((x : Int) != 9) = true := by rw [bne, e9]; rfl
        have e10 : ((x : Int) == 10) = false := by exact beq_eq_false_iff_ne.2 (by omega)
        have e10n : ((x : Int) != 10) = true := by rw [bne, e10]; rfl
        have e13 : ((x : Int) == 13) = false := by exact beq_eq_false_iff_ne.2 (by omega)
        have e13n : ((x : Int) != 13) = true := by rw [bne, e13]; rfl
        have g32 : decide ((x : Int) < 32) = false := decide_eq_false (by omega)
        have k32 : decide ((32 : Int) ≤ (x : Int)) = true := decide_eq_true (by omega)
        have g127 : decide ((x : Int) < 127) = false := decide_eq_false (by omega)
        have k127 : decide ((127 : Int) ≤ (x : Int)) = true := decide_eq_true (by omega)
        have g159 : decide ((159 : Int) < (x : Int)) = true := decide_eq_true (by omega)
        have k159 : decide ((x : Int) ≤ 159) = false := decide_eq_false (by omega)
        clear h hx
        go_wp2
        go_roundw
        case rel => exact ⟨k + 1, g2, congrArg (Value.int .i64) HS.out, HO⟩
        case measure => exact meas_j HS.out g2
    · have g1 : decide ((k : Int) < (nL : Int)) = false := decide_eq_false (by omega)
      have g2 : ¬ k < nL := hlt
      clear hk
      go_wp2_with (go_at_call 20; refine (HAB.out _ HO.below).mono ?_; rintro eN wN ⟨v, RM, rfl, hRM, HM⟩; obtain ⟨pM, nM, cM, rfl⟩ := hRM.form; have hnM := hRM.len; rw [List.length_map] at hnM; have HRM := Lib.hid hRM; have HNM := Lib.hid hnM; clear hRM hnM; have HON := HO.join HM; clear HO HM; have HO := HON; clear HON)
      go_loopw [11, 12] (fun a i wr => ∃ j : Nat, j ≤ nM ∧ i = .int .i64 j ∧ a = .bool (was && (K2.take j).all cleanR) ∧ Mine w wr ((RC ++ RL) ++ RM)) (fun _ i _ => nM - (intOf i).toNat)
      case atStart => exact ⟨0, Nat.zero_le _, rfl, by simp, HO⟩
      case round =>
        obtain ⟨j, hj, rfl, rfl, HO2⟩ := hrel
        clear HO
        have HO := HO2
        clear HO2
        by_cases hjt : j < nM
        · have hkM : j < K2.length := by rw [← HNM.out]; exact hjt
          obtain ⟨hq1, hq2, hq3, hq4⟩ := HRM.out.reads (bs := []) (HO.less (List.sublist_append_right _ _))
          have HS := Lib.hid (wrap_j hjt (by rw [List.length_map] at hq1 hq3; rw [hq1]; exact Nat.le_trans hq3 hq4))
          obtain ⟨b, o, hp, hcell⟩ := iV_cell hq2 hkM
          clear hq1 hq2 hq3 hq4
          subst hp
          have hst := all_step K2 hkM
          generalize (K2[j]'hkM) = x at hcell hst
          obtain ⟨ac, hac⟩ : ∃ ac, (was && (K2.take j).all cleanR) = ac := ⟨_, rfl⟩
          have hst2 : (was && (K2.take (j + 1)).all cleanR) = (ac && cleanR x) := by rw [hst, ← Bool.and_assoc, hac]
          rw [hac]
          have HST := Lib.hid hst2
          have q1 : decide ((j : Int) < (nM : Int)) = true := decide_eq_true (by omega)
          have q2 : j < nM := hjt
          clear hst hst2 hac
          cases ac
          · go_wp2
            go_roundw
            case rel => exact ⟨j + 1, q2, congrArg (Value.int .i64) HS.out, by rw [HST.out]; rfl, HO⟩
            case measure => exact meas_j HS.out q2
          · have hp : (x = 9) ∨ (x = 10) ∨ (x = 13) ∨ (x < 32 ∧ x ≠ 9 ∧ x ≠ 10 ∧ x ≠ 13) ∨ (32 ≤ x ∧ x < 127) ∨ (127 ≤ x ∧ x ≤ 159) ∨ (159 < x) := by omega
            rcases hp with h | h | h | h | h | h | h
            · have hv : cleanR x = true := by unfold cleanR; simp; omega
              have e9 : ((x : Int) == 9) = true := by rw [h]; rfl
              have e9n : ((x : Int) != 9) = false := by rw [bne, e9]; rfl
              have e10 : ((x : Int) == 10) = false := by exact beq_eq_false_iff_ne.2 (by omega)
              have e10n : ((x : Int) != 10) = true := by rw [bne, e10]; rfl
              have e13 : ((x : Int) == 13) = false := by exact beq_eq_false_iff_ne.2 (by omega)
              have e13n : ((x : Int) != 13) = true := by rw [bne, e13]; rfl
              have g32 : decide ((x : Int) < 32) = true := decide_eq_true (by omega)
              have k32 : decide ((32 : Int) ≤ (x : Int)) = false := decide_eq_false (by omega)
              have g127 : decide ((x : Int) < 127) = true := decide_eq_true (by omega)
              have k127 : decide ((127 : Int) ≤ (x : Int)) = false := decide_eq_false (by omega)
              have g159 : decide ((159 : Int) < (x : Int)) = false := decide_eq_false (by omega)
              have k159 : decide ((x : Int) ≤ 159) = true := decide_eq_true (by omega)
              have HVV := Lib.hid hv
              clear h hv
              go_wp2
              go_roundw
              case rel => exact ⟨j + 1, q2, congrArg (Value.int .i64) HS.out, by rw [HST.out, HVV.out]; rfl, HO⟩
              case measure => exact meas_j HS.out q2
            · have hv : cleanR x = true := by unfold cleanR; simp; omega
              have e9 : ((x : Int) == 9) = false := by exact beq_eq_false_iff_ne.2 (by omega)
              have e9n : ((x : Int) != 9) = true := by rw [bne, e9]; rfl
              have e10 : ((x : Int) == 10) = true := by rw [h]; rfl
              have e10n : ((x : Int) != 10) = false := by rw [bne, e10]; rfl
              have e13 : ((x : Int) == 13) = false := by exact beq_eq_false_iff_ne.2 (by omega)
              have e13n : ((x : Int) != 13) = true := by rw [bne, e13]; rfl
              have g32 : decide ((x : Int) < 32) = true := decide_eq_true (by omega)
              have k32 : decide ((32 : Int) ≤ (x : Int)) = false := decide_eq_false (by omega)
              have g127 : decide ((x : Int) < 127) = true := decide_eq_true (by omega)
              have k127 : decide ((127 : Int) ≤ (x : Int)) = false := decide_eq_false (by omega)
              have g159 : decide ((159 : Int) < (x : Int)) = false := decide_eq_false (by omega)
              have k159 : decide ((x : Int) ≤ 159) = true := decide_eq_true (by omega)
              have HVV := Lib.hid hv
              clear h hv
              go_wp2
              go_roundw
              case rel => exact ⟨j + 1, q2, congrArg (Value.int .i64) HS.out, by rw [HST.out, HVV.out]; rfl, HO⟩
              case measure => exact meas_j HS.out q2
            · have hv : cleanR x = true := by unfold cleanR; simp; omega
              have e9 : ((x : Int) == 9) = false := by exact beq_eq_false_iff_ne.2 (by omega)
              have e9n : ((x : Int) != 9) = true := by rw [bne, e9]; rfl
              have e10 : ((x : Int) == 10) = false := by exact beq_eq_false_iff_ne.2 (by omega)
              have e10n : ((x : Int) != 10) = true := by rw [bne, e10]; rfl
              have e13 : ((x : Int) == 13) = true := by rw [h]; rfl
              have e13n : ((x : Int) != 13) = false := by rw [bne, e13]; rfl
              have g32 : decide ((x : Int) < 32) = true := decide_eq_true (by omega)
              have k32 : decide ((32 : Int) ≤ (x : Int)) = false := decide_eq_false (by omega)
              have g127 : decide ((x : Int) < 127) = true := decide_eq_true (by omega)
              have k127 : decide ((127 : Int) ≤ (x : Int)) = false := decide_eq_false (by omega)
              have g159 : decide ((159 : Int) < (x : Int)) = false := decide_eq_false (by omega)
              have k159 : decide ((x : Int) ≤ 159) = true := decide_eq_true (by omega)
              have HVV := Lib.hid hv
              clear h hv
              go_wp2
              go_roundw
              case rel => exact ⟨j + 1, q2, congrArg (Value.int .i64) HS.out, by rw [HST.out, HVV.out]; rfl, HO⟩
              case measure => exact meas_j HS.out q2
            · have hv : cleanR x = false := by unfold cleanR; simp; omega
              have e9 : ((x : Int) == 9) = false := by exact beq_eq_false_iff_ne.2 (by omega)
              have e9n : ((x : Int) != 9) = true := by rw [bne, e9]; rfl
              have e10 : ((x : Int) == 10) = false := by exact beq_eq_false_iff_ne.2 (by omega)
              have e10n : ((x : Int) != 10) = true := by rw [bne, e10]; rfl
              have e13 : ((x : Int) == 13) = false := by exact beq_eq_false_iff_ne.2 (by omega)
              have e13n : ((x : Int) != 13) = true := by rw [bne, e13]; rfl
              have g32 : decide ((x : Int) < 32) = true := decide_eq_true (by omega)
              have k32 : decide ((32 : Int) ≤ (x : Int)) = false := decide_eq_false (by omega)
              have g127 : decide ((x : Int) < 127) = true := decide_eq_true (by omega)
              have k127 : decide ((127 : Int) ≤ (x : Int)) = false := decide_eq_false (by omega)
              have g159 : decide ((159 : Int) < (x : Int)) = false := decide_eq_false (by omega)
              have k159 : decide ((x : Int) ≤ 159) = true := decide_eq_true (by omega)
              have HVV := Lib.hid hv
              clear h hv
              go_wp2
              go_roundw
              case rel => exact ⟨j + 1, q2, congrArg (Value.int .i64) HS.out, by rw [HST.out, HVV.out]; rfl, HO⟩
              case measure => exact meas_j HS.out q2
            · have hv : cleanR x = true := by unfold cleanR; simp; omega
              have e9 : ((x : Int) == 9) = false := by exact beq_eq_false_iff_ne.2 (by omega)
              have e9n : ((x : Int) != 9) = true := by rw [bne, e9]; rfl
              have e10 : ((x : Int) == 10) = false := by exact beq_eq_false_iff_ne.2 (by omega)
              have e10n : ((x : Int) != 10) = true := by rw [bne, e10]; rfl
              have e13 : ((x : Int) == 13) = false := by exact beq_eq_false_iff_ne.2 (by omega)
              have e13n : ((x : Int) != 13) = true := by rw [bne, e13]; rfl
              have g32 : decide ((x : Int) < 32) = false := decide_eq_false (by omega)
              have k32 : decide ((32 : Int) ≤ (x : Int)) = true := decide_eq_true (by omega)
              have g127 : decide ((x : Int) < 127) = true := decide_eq_true (by omega)
              have k127 : decide ((127 : Int) ≤ (x : Int)) = false := decide_eq_false (by omega)
              have g159 : decide ((159 : Int) < (x : Int)) = false := decide_eq_false (by omega)
              have k159 : decide ((x : Int) ≤ 159) = true := decide_eq_true (by omega)
              have HVV := Lib.hid hv
              clear h hv
              go_wp2
              go_roundw
              case rel => exact ⟨j + 1, q2, congrArg (Value.int .i64) HS.out, by rw [HST.out, HVV.out]; rfl, HO⟩
              case measure => exact meas_j HS.out q2
            · have hv : cleanR x = false := by unfold cleanR; simp; omega
              have e9 : ((x : Int) == 9) = false := by exact beq_eq_false_iff_ne.2 (by omega)
              have e9n : ((x : Int) != 9) = true := by rw [bne, e9]; rfl
              have e10 : ((x : Int) == 10) = false := by exact beq_eq_false_iff_ne.2 (by omega)
              have e10n : ((x : Int) != 10) = true := by rw [bne, e10]; rfl
              have e13 : ((x : Int) == 13) = false := by exact beq_eq_false_iff_ne.2 (by omega)
              have e13n : ((x : Int) != 13) = true := by rw [bne, e13]; rfl
              have g32 : decide ((x : Int) < 32) = false := decide_eq_false (by omega)
              have k32 : decide ((32 : Int) ≤ (x : Int)) = true := decide_eq_true (by omega)
              have g127 : decide ((x : Int) < 127) = false := decide_eq_false (by omega)
              have k127 : decide ((127 : Int) ≤ (x : Int)) = true := decide_eq_true (by omega)
              have g159 : decide ((159 : Int) < (x : Int)) = false := decide_eq_false (by omega)
              have k159 : decide ((x : Int) ≤ 159) = true := decide_eq_true (by omega)
              have HVV := Lib.hid hv
              clear h hv
              go_wp2
              go_roundw
              case rel => exact ⟨j + 1, q2, congrArg (Value.int .i64) HS.out, by rw [HST.out, HVV.out]; rfl, HO⟩
              case measure => exact meas_j HS.out q2
            · have hv : cleanR x = true := by unfold cleanR; simp; omega
              have e9 : ((x : Int) == 9) = false := by exact beq_eq_false_iff_ne.2 (by omega)
              have e9n : ((x : Int) != 9) = true := by rw [bne, e9]; rfl
              have e10 : ((x : Int) == 10) = false := by exact beq_eq_false_iff_ne.2 (by omega)
              have e10n : ((x : Int) != 10) = true := by rw [bne, e10]; rfl
              have e13 : ((x : Int) == 13) = false := by exact beq_eq_false_iff_ne.2 (by omega)
              have e13n : ((x : Int) != 13) = true := by rw [bne, e13]; rfl
              have g32 : decide ((x : Int) < 32) = false := decide_eq_false (by omega)
              have k32 : decide ((32 : Int) ≤ (x : Int)) = true := decide_eq_true (by omega)
              have g127 : decide ((x : Int) < 127) = false := decide_eq_false (by omega)
              have k127 : decide ((127 : Int) ≤ (x : Int)) = true := decide_eq_true (by omega)
              have g159 : decide ((159 : Int) < (x : Int)) = true := decide_eq_true (by omega)
              have k159 : decide ((x : Int) ≤ 159) = false := decide_eq_false (by omega)
              have HVV := Lib.hid hv
              clear h hv
              go_wp2
              go_roundw
              case rel => exact ⟨j + 1, q2, congrArg (Value.int .i64) HS.out, by rw [HST.out, HVV.out]; rfl, HO⟩
              case measure => exact meas_j HS.out q2
        · have q1 : decide ((j : Int) < (nM : Int)) = false := decide_eq_false (by omega)
          have q2 : ¬ j < nM := hjt
          have hjM : K2.take j = K2 := List.take_of_length_le (by rw [← HNM.out]; omega)
          rw [hjM, HSF.out]
          clear hj hjM
          go_wp2
          refine region_law 28 [fIs (.bool true), fIs (.bool true), fIs (.bool true), fIs (.bool true), fIs (.bool true), fIs (.slice pC nC cC), fRc (cleanL l), fIs (.string ⟨(cleanL l).toArray⟩), fIs (.slice pC nC cC), fIs (.string ⟨(cleanL l).toArray⟩), fIs (.bool true), fIs (.bool true), fIs (.bool true), fIs (.slice pC nC cC), fIs (.string ⟨(cleanL l).toArray⟩), fIs (.slice A n c), fIs (.string ⟨l.toArray⟩), fIs (.bool e), fIs (.bool e), fIs (.bool true), fIs (.bool true), fIs (.bool true), fIs (.slice pC nC cC), fIs (.int .i64 (nC : Int)), fIs (.slice A n c), fIs (.int .i64 (n : Int)), fIs (.bool true), fIs (.bool true)] HO (by kernel_rfl) (by kernel_rfl) (by decide) (by kernel_rfl)
            (stays_cons (Stays.fIs _) (stays_cons (Stays.fIs _) (stays_cons (Stays.fIs _) (stays_cons (Stays.fIs _) (stays_cons (Stays.fIs _) (stays_cons (Stays.fIs _) (stays_cons (Stays.fRc _) (stays_cons (Stays.fIs _) (stays_cons (Stays.fIs _) (stays_cons (Stays.fIs _) (stays_cons (Stays.fIs _) (stays_cons (Stays.fIs _) (stays_cons (Stays.fIs _) (stays_cons (Stays.fIs _) (stays_cons (Stays.fIs _) (stays_cons (Stays.fIs _) (stays_cons (Stays.fIs _) (stays_cons (Stays.fIs _) (stays_cons (Stays.fIs _) (stays_cons (Stays.fIs _) (stays_cons (Stays.fIs _) (stays_cons (Stays.fIs _) (stays_cons (Stays.fIs _) (stays_cons (Stays.fIs _) (stays_cons (Stays.fIs _) (stays_cons (Stays.fIs _) (stays_cons (Stays.fIs _) (stays_cons (Stays.fIs _) stays_nil)))))))))))))))))))))))))))) ?_
          intro vals A hA
          simp [fillL, dstOf, List.range, List.range.loop, Act.put] at hA
          subst hA
          refine ⟨⟨?_, ?_, ?_, ?_, ?_, ?_, ?_, ?_, ?_, ?_, ?_, ?_, ?_, ?_, ?_, ?_, ?_, ?_, ?_, ?_, ?_, ?_, ?_, ?_, ?_, ?_, ?_, ?_, trivial⟩, ?_⟩
          all_goals intro W hd hM hb0
          case refine_1 =>
            skip
            exact st_val rfl (by simp only [execOp]; first | (go_simp; done) | (go_simp; rfl)) rfl
          case refine_2 =>
            have v0 : vals 0 = .bool true := hd 0 (by kernel_rfl)
            rw [v0]
            exact st_val rfl (by simp only [execOp]; first | (go_simp; done) | (go_simp; rfl)) rfl
          case refine_3 =>
            have v1 : vals 1 = .bool true := hd 1 (by kernel_rfl)
            rw [v1]
            exact st_val rfl (by simp only [execOp]; first | (go_simp; done) | (go_simp; rfl)) rfl
          case refine_4 =>
            have v1 : vals 1 = .bool true := hd 1 (by kernel_rfl)
            have v2 : vals 2 = .bool true := hd 2 (by kernel_rfl)
            rw [v1, v2]
            exact st_val rfl (by simp only [execOp]; first | (go_simp; done) | (go_simp; rfl)) rfl
          case refine_5 =>
            have v3 : vals 3 = .bool true := hd 3 (by kernel_rfl)
            rw [v3]
            exact st_val rfl (by simp only [execOp]; first | (go_simp; done) | (go_simp; rfl)) rfl
          case refine_6 =>
            have v4 : vals 4 = .bool true := hd 4 (by kernel_rfl)
            rw [v4]
            exact st_val rfl (by simp only [execOp]; first | (go_simp; done) | (go_simp; rfl)) rfl
          case refine_7 =>
            have v4 : vals 4 = .bool true := hd 4 (by kernel_rfl)
            have v5 : vals 5 = .slice pC nC cC := hd 5 (by kernel_rfl)
            rw [v4, v5]
            have hq := HCC.out pC cC W HQC.out (HRC.out.reads (bs := []) (hM.less (by rw [List.append_assoc]; exact List.sublist_append_left _ _))).2.1
            exact st_call rfl (by simp only [execOp]; first | (go_simp; done) | (go_simp; rfl)) hq (by rintro e w' ⟨v, R, rfl, hR, hMM⟩; exact ⟨_, rfl, hMM.below, fRc_of hR hMM⟩)
          case refine_8 =>
            have v4 : vals 4 = .bool true := hd 4 (by kernel_rfl)
            rw [v4]
            obtain ⟨pA, cA, eA, hcA, hrA⟩ : fRc (cleanL l) (vals 6) W := hd 6 (by kernel_rfl)
            rw [eA]
            have hcv := run_str_of (P := Tryd.prog) (src := 24) (dst := 9) Tryd.underlying24 Tryd.underlying5 Tryd.underlying9 (c := cA) hrA rfl
            exact st_val rfl (by simp only [execOp]; first | (go_simp; done) | (go_simp; rfl)) rfl
          case refine_9 =>
            have v4 : vals 4 = .bool true := hd 4 (by kernel_rfl)
            rw [v4]
            exact st_val rfl (by simp only [execOp]; first | (go_simp; done) | (go_simp; rfl)) rfl
          case refine_10 =>
            have v4 : vals 4 = .bool true := hd 4 (by kernel_rfl)
            have v8 : vals 8 = .slice pC nC cC := hd 8 (by kernel_rfl)
            rw [v4, v8]
            have hcv := run_str_of (P := Tryd.prog) (src := 24) (dst := 9) Tryd.underlying24 Tryd.underlying5 Tryd.underlying9 (c := cC) (n := nC) (HRC.out.reads (bs := []) (hM.less (by rw [List.append_assoc]; exact List.sublist_append_left _ _))).2.1 HNN.out
            exact st_val rfl (by simp only [execOp]; first | (go_simp; done) | (go_simp; rfl)) rfl
          case refine_11 =>
            have v4 : vals 4 = .bool true := hd 4 (by kernel_rfl)
            have v7 : vals 7 = .string ⟨(cleanL l).toArray⟩ := hd 7 (by kernel_rfl)
            have v9 : vals 9 = .string ⟨(cleanL l).toArray⟩ := hd 9 (by kernel_rfl)
            rw [v4, v7, v9]
            have hse := beqD (cleanL l) (cleanL l)
            rw [decide_eq_true rfl] at hse
            exact st_val rfl (by simp only [execOp]; first | (go_simp; done) | (go_simp; rfl)) rfl
          case refine_12 =>
            have v4 : vals 4 = .bool true := hd 4 (by kernel_rfl)
            have v10 : vals 10 = .bool true := hd 10 (by kernel_rfl)
            rw [v4, v10]
            exact st_val rfl (by simp only [execOp]; first | (go_simp; done) | (go_simp; rfl)) rfl
          case refine_13 =>
            have v11 : vals 11 = .bool true := hd 11 (by kernel_rfl)
            rw [v11]
            exact st_val rfl (by simp only [execOp]; first | (go_simp; done) | (go_simp; rfl)) rfl
          case refine_14 =>
            have v12 : vals 12 = .bool true := hd 12 (by kernel_rfl)
            rw [v12]
            exact st_val rfl (by simp only [execOp]; first | (go_simp; done) | (go_simp; rfl)) rfl
          case refine_15 =>
            have v12 : vals 12 = .bool true := hd 12 (by kernel_rfl)
            have v13 : vals 13 = .slice pC nC cC := hd 13 (by kernel_rfl)
            rw [v12, v13]
            have hcv := run_str_of (P := Tryd.prog) (src := 24) (dst := 9) Tryd.underlying24 Tryd.underlying5 Tryd.underlying9 (c := cC) (n := nC) (HRC.out.reads (bs := []) (hM.less (by rw [List.append_assoc]; exact List.sublist_append_left _ _))).2.1 HNN.out
            exact st_val rfl (by simp only [execOp]; first | (go_simp; done) | (go_simp; rfl)) rfl
          case refine_16 =>
            have v12 : vals 12 = .bool true := hd 12 (by kernel_rfl)
            rw [v12]
            exact st_val rfl (by simp only [execOp]; first | (go_simp; done) | (go_simp; rfl)) rfl
          case refine_17 =>
            have v12 : vals 12 = .bool true := hd 12 (by kernel_rfl)
            have v15 : vals 15 = .slice A n c := hd 15 (by kernel_rfl)
            rw [v12, v15]
            have hcv := run_str_of (P := Tryd.prog) (src := 24) (dst := 9) Tryd.underlying24 Tryd.underlying5 Tryd.underlying9 (c := c) (n := n) (HR.out _ hM.below) HMM.out
            exact st_val rfl (by simp only [execOp]; first | (go_simp; done) | (go_simp; rfl)) rfl
          case refine_18 =>
            have v12 : vals 12 = .bool true := hd 12 (by kernel_rfl)
            have v14 : vals 14 = .string ⟨(cleanL l).toArray⟩ := hd 14 (by kernel_rfl)
            have v16 : vals 16 = .string ⟨l.toArray⟩ := hd 16 (by kernel_rfl)
            rw [v12, v14, v16]
            have hse := beqD (cleanL l) l
            rw [HEE.out] at hse
            exact st_val rfl (by simp only [execOp]; first | (go_simp; done) | (go_simp; rfl)) rfl
          case refine_19 =>
            have v12 : vals 12 = .bool true := hd 12 (by kernel_rfl)
            rw [v12]
            exact st_val rfl (by simp only [execOp]; first | (go_simp; done) | (go_simp; rfl)) rfl
          case refine_20 =>
            have v12 : vals 12 = .bool true := hd 12 (by kernel_rfl)
            have v17 : vals 17 = .bool e := hd 17 (by kernel_rfl)
            have v18 : vals 18 = .bool e := hd 18 (by kernel_rfl)
            rw [v12, v17, v18]
            exact st_val rfl (by simp only [execOp]; first | (go_simp; done) | (go_simp; rfl)) rfl
          case refine_21 =>
            have v12 : vals 12 = .bool true := hd 12 (by kernel_rfl)
            have v19 : vals 19 = .bool true := hd 19 (by kernel_rfl)
            rw [v12, v19]
            exact st_val rfl (by simp only [execOp]; first | (go_simp; done) | (go_simp; rfl)) rfl
          case refine_22 =>
            have v20 : vals 20 = .bool true := hd 20 (by kernel_rfl)
            rw [v20]
            exact st_val rfl (by simp only [execOp]; first | (go_simp; done) | (go_simp; rfl)) rfl
          case refine_23 =>
            have v21 : vals 21 = .bool true := hd 21 (by kernel_rfl)
            rw [v21]
            exact st_val rfl (by simp only [execOp]; first | (go_simp; done) | (go_simp; rfl)) rfl
          case refine_24 =>
            have v21 : vals 21 = .bool true := hd 21 (by kernel_rfl)
            have v22 : vals 22 = .slice pC nC cC := hd 22 (by kernel_rfl)
            rw [v21, v22]
            exact st_val rfl (by simp only [execOp]; first | (go_simp; done) | (go_simp; rfl)) rfl
          case refine_25 =>
            have v21 : vals 21 = .bool true := hd 21 (by kernel_rfl)
            rw [v21]
            exact st_val rfl (by simp only [execOp]; first | (go_simp; done) | (go_simp; rfl)) rfl
          case refine_26 =>
            have v21 : vals 21 = .bool true := hd 21 (by kernel_rfl)
            have v24 : vals 24 = .slice A n c := hd 24 (by kernel_rfl)
            rw [v21, v24]
            exact st_val rfl (by simp only [execOp]; first | (go_simp; done) | (go_simp; rfl)) rfl
          case refine_27 =>
            have v21 : vals 21 = .bool true := hd 21 (by kernel_rfl)
            have v23 : vals 23 = .int .i64 (nC : Int) := hd 23 (by kernel_rfl)
            have v25 : vals 25 = .int .i64 (n : Int) := hd 25 (by kernel_rfl)
            rw [v21, v23, v25]
            exact st_val rfl (by simp only [execOp]; first | (go_simp; done) | (go_simp; rfl)) rfl
          case refine_28 =>
            have v21 : vals 21 = .bool true := hd 21 (by kernel_rfl)
            have v26 : vals 26 = .bool true := hd 26 (by kernel_rfl)
            rw [v21, v26]
            exact st_val rfl (by simp only [execOp]; first | (go_simp; done) | (go_simp; rfl)) rfl
          case refine_29 =>
            have v27 : vals 27 = .bool true := hd 27 (by omega)
            rw [v27]
            simp only [List.drop_succ_cons, List.drop_zero]
            have HO := hM
            clear hM hd hb0
            go_wp2
            go_ret
            exact ⟨rfl, HO.below⟩
end Go.Proofs.YtcglbfpmcpammaaDoor
end
