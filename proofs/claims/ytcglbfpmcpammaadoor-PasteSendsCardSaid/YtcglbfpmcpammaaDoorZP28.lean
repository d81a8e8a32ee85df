/- P: texts run together by shake.py: KitAs PaJ KitMk PaK PaS. -/
import Derived.ArgAppend
import Derived.Below
import Derived.BigQuiet
import Derived.Deep.AppendLies
import Derived.Deep.CutBlock
import Derived.Deep.DeepCutAuto
import Derived.Deep.Draws
import Derived.Deep.LoopGhost
import Derived.Deep.OwnRows
import Derived.Deep.Quiet
import Derived.Deep.QuietTactic
import Derived.Deep.RegionHeld3
import Derived.KernelRfl
import Derived.Laws.AppendOwn
import Derived.Laws.AppendOwnNone
import Derived.Laws.BitsAllLaws
import Derived.Laws.BitsLemmas
import Derived.Laws.BytesArg
import Derived.Laws.Concat
import Derived.Laws.CopyRow
import Derived.Laws.IdiomCopy
import Derived.Laws.IdiomStrings
import Derived.Laws.MakeOwn
import Derived.Laws.OwnMore
import Derived.Laws.Rows
import Derived.Laws.Slices
import Derived.Laws.StructEq
import Derived.Laws.Tables
import Derived.Lib.AppendIntMem
import Derived.Lib.AppendStr
import Derived.Lib.AppendZeros
import Derived.Lib.Bytes
import Derived.Lib.ConvBytes
import Derived.Lib.Hide
import Derived.Lib.ItoaLen
import Derived.Lib.ItoaNum
import Derived.Lib.LaidTab
import Derived.Lib.OthersKept
import Derived.Lib.SliceRun
import Derived.Lib.TrimU
import Derived.LoopIn
import Derived.MapKept
import Derived.Maps.AppendAt
import Derived.Orders
import Derived.OrdersHeld
import Derived.OrdersIn
import Derived.OwnWalk
import Derived.RangeFuncCalls
import Derived.RangeFuncNested
import Derived.RangeFuncWrites
import Derived.RowKit
import Derived.RowKit3
import Derived.Shelf.Bytes.SlEqualAll
import Derived.Shelf.Bytes.SlSearch0
import Derived.Shelf.Bytes.SlSmallAll
import Derived.Shelf.Bytes.Small
import Derived.Shelf.LaysM
import Derived.Shelf.Slices.Empties2
import Derived.Shelf.Slices.Equal
import Derived.Shelf.Small.Strs
import Derived.Shelf.Small.Utf8
import Derived.Shelf.Strconv.Itoa0
import Derived.Shelf.Strconv.Itoa1
import Derived.Shelf.Strconv.Itoa2
import Derived.Shelf.Strconv.Itoa3
import Derived.Shelf.Strings.Builder1
import Derived.Shelf.Strings.Builder2
import Derived.Shelf.Strings.Builder2Cap
import Derived.Shelf.Strings.BuilderCap
import Derived.Shelf.Strings.BuilderF
import Derived.Shelf.Strings.BuilderK
import Derived.Shelf.Strings.OnBuilder
import Derived.Shelf.Strings.Runes
import Derived.Shelf.Strings.Search1
import Derived.Still
import Derived.Tactics
import Derived.TacticsIn
import Derived.Test.YtcglbfpmcpammaaDoorProg
import Derived.WalkKit
import Derived.WideLaws
import Derived.Test.YtcglbfpmcpammaaDoorZP1
import Derived.Test.YtcglbfpmcpammaaDoorZP2
import Derived.Test.YtcglbfpmcpammaaDoorZP3
import Derived.Test.YtcglbfpmcpammaaDoorZP4
import Derived.Test.YtcglbfpmcpammaaDoorZP5
import Derived.Test.YtcglbfpmcpammaaDoorZP6
import Derived.Test.YtcglbfpmcpammaaDoorZP7
import Derived.Test.YtcglbfpmcpammaaDoorZP8
import Derived.Test.YtcglbfpmcpammaaDoorZP9
import Derived.Test.YtcglbfpmcpammaaDoorZP10
import Derived.Test.YtcglbfpmcpammaaDoorZP11
import Derived.Test.YtcglbfpmcpammaaDoorZP14
import Derived.Test.YtcglbfpmcpammaaDoorZP18
import Derived.Test.YtcglbfpmcpammaaDoorZP19
section
namespace Go.Proofs.YtcglbfpmcpammaaDoor
set_option linter.unusedVariables false
set_option linter.unusedSimpArgs false
open Go.RowKit Kit
namespace Kit
section
variable {P : Program} {ops : Array Oper} {rest : List Oper} {Q : Exit → Act → World → Prop} {a : Act} {W0 w : World} {o : Oper} {T : TypeId} {v : Value} {R bs b0 : Res}
theorem own_appendStr {s x : Operand} {t u : TypeId} {l : List UInt8} {s2 : ByteArray} (HO : Mine W0 w bs) (hR : GRow T v (l.map byV) R) (htl : Tl bs R b0) (ho : o.op = .call { callee := .builtin .append, args := #[s, x], argTypes := #[t, u] })
    (hgd : Region.wanted o (yielded ops a.tmps) = true) (hs : EvalTo a s v) (hx : EvalTo a x (.string s2)) (ht : P.underlying t = some (.slice T)) (hu : P.underlying u = some .string) (hinfo : (P.info? T).map (fun i => (i.zero, i.size, i.bytes)) = some (some (.int .u8 0), 1, 1))
    (hby : l.length + s2.size ≤ 140737488355328)
    (h : ∀ p' n' c' w' R', GRow T (.slice p' n' c') ((l ++ s2.data.toList).map byV) R' → Mine W0 w' R' → wpList P ops Q rest (a.put o.dst (.slice p' n' c')) w') : wpList P ops Q (o :: rest) a w :=
  wpList_want hgd fun _ hK => by
    obtain ⟨i, hi, hz, hsz, hb⟩ : ∃ i, P.info? T = some i ∧ i.zero = some (.int .u8 0) ∧ i.size = 1 ∧ i.bytes = 1 := by
      cases hi : P.info? T with
      | none => rw [hi] at hinfo; cases hinfo
      | some i => rw [hi] at hinfo; simp at hinfo; exact ⟨i, rfl, hinfo.1, hinfo.2.1, hinfo.2.2⟩
    rw [htl.eq] at HO
    have hown := hR.own HO
    obtain ⟨v', w', hap, hown', hgr, _⟩ := Lib.run_append_own_string (P := P) w W0.heap.size t u o.type T i ht hu hi hz hsz hb v _ _ hown s2 (by rw [List.length_map]; unfold maxLen; omega) (by rw [List.length_map]; exact hby) HO.below.size
    have hbel : Below W0.heap.size W0 w' := HO.below.grown hgr HO.below.size (fun k hk => (hown.lt k hk).1)
    have e : (l.map byV) ++ Lib.strCells s2 = (l ++ s2.data.toList).map byV := by rw [List.map_append]; rfl
    rw [e] at hown'
    obtain ⟨R', hR', HM⟩ := GRow.of_own hown' hbel
    unfold Oper.wp execOp
    simp only [ho, resolve, invoke, builtin, Sem.run_bind, Sem.run_pure, Result.andThen_ok, List.map_toArray, List.map_cons, List.map_nil, hs.eq, hx.eq, hap]
    obtain ⟨p', n', c', rfl⟩ := hR'.form
    exact hK _ _ (h _ _ _ _ _ hR' HM)
end
end Kit
end Go.Proofs.YtcglbfpmcpammaaDoor
end
section
namespace Go.Proofs.YtcglbfpmcpammaaDoor
set_option linter.unusedVariables false
set_option linter.unusedSimpArgs false
open Go.RowKit Kit G Go.Proofs.YtcglbfpmcpammaaDoorW.PrintWords Go.Proofs.YtcglbfpmcpammaaDoorW.PrintMore
attribute [local irreducible] wpList Calls wpQuiet
set_option maxRecDepth 100000 in
set_option maxHeartbeats 8000000 in
theorem refClean_calls (A : Option Addr) (c : Nat) (l : List UInt8) (hc : l.length ≤ c) (h5 : l.length ≤ 100000) (w : World) (hr : Reads w A (l.map byV)) : Calls Tryd.prog 11 #[.slice A l.length c] w fun e w' => ∃ v R, e = .returned v ∧ GRow 5 v ((cleanL l).map byV) R ∧ Mine w w' R := by
  have HO := Mine.start w
  obtain ⟨b0, o0, hA⟩ := slice_at hr
  have HR := Lib.hid hr
  have HC := Lib.hid (And.intro hc h5)
  clear hr hc h5
  go_enter Tryd.func11, Tryd.ntmps11
  go_wp2
  go_loopw [3, 4] (fun a i wr => ∃ k : Nat, k ≤ l.length ∧ i = .int .i64 k ∧ ∃ p q cc R out, a = .slice p q cc ∧ GRow 5 (.slice p q cc) (out.map byV) R ∧ cleanL l = out ++ cleanL (l.drop k) ∧ out.length ≤ k ∧ Mine w wr R) (fun _ i _ => l.length - (intOf i).toNat)
  case atStart => exact ⟨0, Nat.zero_le _, rfl, none, 0, 0, [], [], rfl, GRow.nil _, rfl, Nat.le_refl _, HO⟩
  case round =>
    obtain ⟨k, hk, rfl, p, q, cc, R, out, rfl, hG, hcl, hol, HO2⟩ := hrel
    clear HO
    have HO := HO2
    clear HO2
    by_cases hlt : k < l.length
    · have hAs : A = some ⟨b0, o0, none⟩ := hA.resolve_left (fun e => by rw [e] at hlt; simp at hlt)
      subst hAs
      obtain ⟨m, hm⟩ : ∃ m, l.length = m := ⟨_, rfl⟩
      have hC := HC.out
      rw [hm] at hC hlt hk
      obtain ⟨x, hx⟩ : ∃ x, l.drop k = x := ⟨_, rfl⟩
      have hxl : x.length = m - k := by rw [← hx, List.length_drop, hm]
      have hne : x ≠ [] := fun e => by rw [e] at hxl; simp at hxl; omega
      have hmx := take_max x hne
      rw [hx, cleanL_step hne] at hcl
      obtain ⟨⟨r, t⟩, ht⟩ : ∃ t, takeU x = t := ⟨_, rfl⟩
      rw [ht] at hmx hcl
      have hts := takeU_spec ht
      have hdx : l.drop (k + max t 1) = x.drop (max t 1) := by rw [← hx, List.drop_drop]
      have htk := fun W (hW : Below w.heap.size w W) => refTake_calls (some ⟨b0, o0 + k, none⟩) (c - k) x (by omega) (by omega) W (by rw [← hx]; exact rdDrop (HR.out.below hW) k)
      rw [ht, hxl] at htk
      obtain ⟨nw, hnw⟩ : ∃ nw, x.take t = nw := ⟨_, rfl⟩
      have hnl : nw.length = t := by rw [← hnw]; simp; omega
      have HRD : Hid (∀ W, Below w.heap.size w W → Reads W (some ⟨b0, o0 + k, none⟩) (nw.map byV)) := Lib.hid fun W hW => by rw [← hnw, ← hx]; exact rdTake (rdDrop (HR.out.below hW) k) t
      have HLEN : Hid ((nw.map byV).length = k + t - k) := Lib.hid (by rw [List.length_map, hnl]; omega)
      have HONE : Hid (∀ u ∈ nw.map byV, u.oneCell' = true) := Lib.hid (byV_one nw)
      have H63 : Hid ((out.map byV).length + (k + t - k) ≤ maxLen) := Lib.hid (by rw [List.length_map]; unfold maxLen; omega)
      have H64 : Hid (((out.map byV).length + (k + t - k)) * 1 ≤ 140737488355328) := Lib.hid (by rw [List.length_map]; omega)
      have HTK := Lib.hid htk
      have HCR := Lib.hid (refClean1_calls r)
      have HGR := Lib.hid hG
      obtain ⟨z, hz⟩ : ∃ z, max t 1 = z := ⟨_, rfl⟩
      simp only [hz] at hmx hcl hdx
      have hmx3 : max (t : Int) 1 = (z : Int) := by omega
      have tz : t ≤ z := by omega
      have HF := Lib.hid (show k + z ≤ m ∧ 0 < z ∧ out.length ≤ k ∧ t ≤ z ∧ nw.length = t from ⟨by omega, by omega, hol, tz, hnl⟩)
      have HDX := Lib.hid hdx
      have d1 : decide ((k : Int) < (m : Int)) = true := decide_eq_true (by omega)
      have d2 : k ≤ m := hk
      have d13 : k < m := hlt
      have d14 : decide (k < m) = true := decide_eq_true hlt
      have d3 : ¬ c = k := by omega
      have d4 : ¬ m < k := by omega
      have d5 : ¬ c < k := by omega
      have d6 : k + t ≤ c := by omega
      have d7 : ¬ c < k + t := by omega
      have d8 : m ≤ c := by omega
      have d9 : k + t - k = t := by omega
      have d10 : m ≤ 100000 := hC.2
      have d11 : t ≤ 100000 := by omega
      have d12 : z ≤ 100000 := by omega
      have u1 : IntKind.i64.wrap ((k : Int) + (t : Int)) = (k : Int) + (t : Int) := by rw [IntKind.wrap_i64]; omega
      have u2 : IntKind.i64.wrap ((k : Int) + (z : Int)) = (k : Int) + (z : Int) := by rw [IntKind.wrap_i64]; omega
      have HM := Lib.hid hm
      rw [hm]
      by_cases ht0 : 0 < t
      · have b1 : decide ((0 : Int) < (t : Int)) = true := decide_eq_true (by omega)
        cases hcr : cleanR r with
        | true =>
          rw [hcr] at HCR
          simp only [decide_eq_true ht0, hcr, Bool.and_self, if_true, hnw] at hcl
          have HCL := Lib.hid hcl
          clear hcl hnw hnl hxl hne hmx ht hts hdx htk hG hol hz hx hm hA hC hcr hlt
          go_wp2_with (first
            | (go_at_call 22; refine (HTK.out _ HO.below).mono ?_; rintro eN wN ⟨rfl, hbN⟩; have HON := HO.call hbN; clear HO hbN; have HO := HON; clear HON)
            | (go_at_call 23; refine (HCR.out _).mono ?_; rintro eN wN ⟨rfl, hbN⟩; have HON := HO.call hbN; clear HO hbN; have HO := HON; clear HON)
            | ((with_reducible refine gate ?_); ((with_reducible refine gateAt (N := 31) rfl ?_); refine own_append (T := 5) (t := 24) (z := .int .u8 0) (bytes := 1) (news := nw.map byV) HO HGR.out (by repeat (first | exact Tl.here | exact Tl.app | apply Tl.cons)) rfl rfl (.tmp rfl) (.tmp rfl) Tryd.underlying24 (by kernel_rfl) (by rfl) HLEN.out (HRD.out _ HO.below) HONE.out H63.out H64.out ?_; clear HO; intro p2 n2 c2 wN R2 hR2 HO; (simp only [List.nil_append, List.cons_append] at HO); (try simp only [Act.put, List.setIfInBounds_toArray, List.set_cons_zero, List.set_cons_succ]))))
          go_roundw
          case rel => exact ⟨k + z, by have := HF.out; have := HM.out; omega, by go_num, p2, n2, c2, R2, out ++ nw, rfl, by rw [List.map_append]; exact hR2, by rw [HDX.out, List.append_assoc]; exact HCL.out, by rw [List.length_append]; have := HF.out; omega, HO⟩
          case measure => have := HF.out; have := HM.out; simp [intOf]; try omega
        | false =>
          rw [hcr] at HCR
          simp only [hcr, Bool.and_false, Bool.false_eq_true, if_false, List.nil_append] at hcl
          have HCL := Lib.hid hcl
          clear hcl hnw hnl hxl hne hmx ht hts hdx htk hG hol hz hx hm hA hC hcr hlt
          go_wp2_with (first
            | (go_at_call 22; refine (HTK.out _ HO.below).mono ?_; rintro eN wN ⟨rfl, hbN⟩; have HON := HO.call hbN; clear HO hbN; have HO := HON; clear HON)
            | (go_at_call 23; refine (HCR.out _).mono ?_; rintro eN wN ⟨rfl, hbN⟩; have HON := HO.call hbN; clear HO hbN; have HO := HON; clear HON))
          go_roundw
          case rel => exact ⟨k + z, by have := HF.out; have := HM.out; omega, by go_num, p, q, cc, R, out, rfl, HGR.out, by rw [HDX.out]; exact HCL.out, by have := HF.out; omega, HO⟩
          case measure => have := HF.out; have := HM.out; simp [intOf]; try omega
      · obtain rfl : t = 0 := by omega
        have b1 : decide ((0 : Int) < ((0 : Nat) : Int)) = false := rfl
        simp only [Nat.lt_irrefl, decide_false, Bool.false_and, Bool.false_eq_true, if_false, List.nil_append] at hcl
        have HCL := Lib.hid hcl
        clear hcl hnw hnl hxl hne hmx ht hts hdx htk hG hol hz hx hm hA hC hlt
        go_wp2_with (go_at_call 22; refine (HTK.out _ HO.below).mono ?_; rintro eN wN ⟨rfl, hbN⟩; have HON := HO.call hbN; clear HO hbN; have HO := HON; clear HON)
        go_roundw
        case rel => exact ⟨k + z, by have := HF.out; have := HM.out; omega, by go_num, p, q, cc, R, out, rfl, HGR.out, by rw [HDX.out]; exact HCL.out, by have := HF.out; omega, HO⟩
        case measure => have := HF.out; have := HM.out; simp [intOf]; try omega
    · obtain rfl : k = l.length := by omega
      have d1 : decide ((l.length : Int) < (l.length : Int)) = false := decide_eq_false (by omega)
      have hfin : GRow 5 (.slice p q cc) ((cleanL l).map byV) R := by
        rw [hcl, List.drop_length, cleanL_nil, List.append_nil]
        exact hG
      have HFN := Lib.hid hfin
      clear hcl hG hol hk hlt hA hfin
      go_wp2
      go_ret
      have h1 := HFN.out
      first | exact ⟨_, rfl, _, h1, HO⟩ | exact ⟨_, _, rfl, h1, HO⟩ | exact ⟨_, h1, HO⟩
end Go.Proofs.YtcglbfpmcpammaaDoor
end
section
namespace Go.Proofs.YtcglbfpmcpammaaDoor
set_option linter.unusedVariables false
set_option linter.unusedSimpArgs false
open Go Go.RowKit Kit
section
variable {P : Program} {ops : Array Oper} {Q : Exit → Act → World → Prop} {a : Act} {w W0 : World} {rest : List Oper} {o : Oper} {bs bs' : Res}
theorem own_appendMG {s x : Operand} {t T : TypeId} {g n m c : Nat} {p : Option Addr} {olds news : List UInt8} (HO : Mine W0 w bs) (hm : (g, IsBytes T n n olds) ∈ bs) (ho : o.op = .call { callee := .builtin .append, args := #[s, x], argTypes := #[t, t] }) (hgd : Region.wanted o (yielded ops a.tmps) = true)
    (hs : EvalTo a s (.slice (some ⟨g, 0, none⟩) n n)) (hx : EvalTo a x (.slice p m c)) (ht : P.underlying t = some (.slice T)) (hinfo : (P.info? T).map (fun i => (i.zero, i.size, i.bytes)) = some (some (.int .u8 0), 1, 1))
    (hl : news.length = m) (h0 : 0 < m) (hr : Reads w p (news.map byV)) (h63 : n + m ≤ 1000000)
    (h : ∀ p' n' c' w' R', GRow T (.slice p' n' c') ((olds ++ news).map byV) R' → Mine W0 w' (bs ++ R') → wpList P ops Q rest (a.put o.dst (.slice p' n' c')) w') : wpList P ops Q (o :: rest) a w :=
  wpList_want hgd fun _ hK => by
    obtain ⟨i, hi, hz, hsz, hb⟩ := info_of hinfo
    have hR := HO.row hm
    have hlo := hR.len
    have holds : ∀ j u, (olds.map byV)[j]? = some u → w.cell? ⟨g, 0 + j, none⟩ = some u := by
      intro j u hj
      obtain ⟨b, o, h, hc⟩ := hR.reads j u hj
      cases h
      exact hc
    obtain ⟨b0, o0, hp, _⟩ := hr 0 (byV (news[0]'(by omega))) (by rw [List.getElem?_map, List.getElem?_eq_getElem (by omega)]; rfl)
    subst hp
    have hcells : ∀ j u, (news.map byV)[j]? = some u → w.cell? ((⟨b0, o0, none⟩ : Addr).add j) = some u := by
      intro j u hj
      obtain ⟨b, o, h, hc⟩ := hr j u hj
      cases h
      have hadd : (⟨b0, o0, none⟩ : Addr).add j = ⟨b0, o0 + j, none⟩ := by unfold Addr.add; split <;> simp_all
      rw [hadd]
      exact hc
    obtain ⟨v', w', hrun, hown, hgr⟩ := run_append_arg_grows (P := P) (w := w) t o.type T i (.int .u8 0) 1 1 ht hi hz hsz hb rfl (by decide) ⟨g, 0, none⟩ n n (olds.map byV) (by rw [List.length_map]; omega) (fun j u hj => by rw [Addr.add_lit]; exact holds j u hj) ⟨b0, o0, none⟩ m c (news.map byV) (by rw [List.length_map]; omega) hcells (by omega) (by simp only [maxLen]; omega) (by omega)
    have hbel : Below w.heap.size w w' := (Below.refl _ w).grown hgr (Nat.le_refl _) (fun k hk => by cases hk)
    rw [← List.map_append] at hown
    obtain ⟨R', hR', HM⟩ := GRow.of_own hown hbel
    unfold Oper.wp execOp
    simp only [ho, resolve, invoke, builtin, Sem.run_bind, Sem.run_pure, Result.andThen_ok, List.map_toArray, List.map_cons, List.map_nil, hs.eq, hx.eq, hrun]
    obtain ⟨p', n', c', rfl⟩ := hR'.form
    exact hK _ _ (h _ _ _ _ _ hR' (HO.join HM))
theorem own_appendM0 {s x : Operand} {t T : TypeId} {g n c : Nat} {p : Option Addr} (ho : o.op = .call { callee := .builtin .append, args := #[s, x], argTypes := #[t, t] }) (hgd : Region.wanted o (yielded ops a.tmps) = true)
    (hs : EvalTo a s (.slice (some ⟨g, 0, none⟩) n n)) (hx : EvalTo a x (.slice p 0 c)) (ht : P.underlying t = some (.slice T)) (hinfo : (P.info? T).map (fun i => (i.zero, i.size, i.bytes)) = some (some (.int .u8 0), 1, 1))
    (h : wpList P ops Q rest (a.put o.dst (.slice (some ⟨g, 0, none⟩) n n)) w) : wpList P ops Q (o :: rest) a w :=
  wpList_want hgd fun _ hK => by
    obtain ⟨i, hi, hz, hsz, hb⟩ := info_of hinfo
    have hrun : (Builtin.append_ #[t, t] o.type #[.slice (some ⟨g, 0, none⟩) n n, .slice p 0 c]).run P w = .ok (.slice (some ⟨g, 0, none⟩) n n) w := by
      cases p <;> simp [Builtin.append_, run_underlying ht, sizeOf, typeInfo, hi, Builtin.lenOf, Builtin.firstCells, storeCells, loadCells, loadCellsFrom]
    unfold Oper.wp execOp
    simp only [ho, resolve, invoke, builtin, Sem.run_bind, Sem.run_pure, Result.andThen_ok, List.map_toArray, List.map_cons, List.map_nil, hs.eq, hx.eq, hrun]
    exact hK _ _ h
theorem own_appendMS {s x : Operand} {t u T : TypeId} {g n : Nat} {olds : List UInt8} {s2 : ByteArray} (HO : Mine W0 w bs) (hm : (g, IsBytes T n n olds) ∈ bs) (ho : o.op = .call { callee := .builtin .append, args := #[s, x], argTypes := #[t, u] }) (hgd : Region.wanted o (yielded ops a.tmps) = true)
    (hs : EvalTo a s (.slice (some ⟨g, 0, none⟩) n n)) (hx : EvalTo a x (.string s2)) (ht : P.underlying t = some (.slice T)) (hu : P.underlying u = some .string) (hinfo : (P.info? T).map (fun i => (i.zero, i.size, i.bytes)) = some (some (.int .u8 0), 1, 1))
    (h0 : 0 < s2.size) (h63 : n + s2.size ≤ 1000000)
    (h : ∀ p' n' c' w' R', GRow T (.slice p' n' c') ((olds ++ s2.data.toList).map byV) R' → Mine W0 w' (bs ++ R') → wpList P ops Q rest (a.put o.dst (.slice p' n' c')) w') : wpList P ops Q (o :: rest) a w :=
  wpList_want hgd fun _ hK => by
    obtain ⟨i, hi, hz, hsz, hb⟩ := info_of hinfo
    have hR := HO.row hm
    have hlo := hR.len
    have holds : ∀ j u, (olds.map byV)[j]? = some u → w.cell? ((⟨g, 0, none⟩ : Addr).add j) = some u := by
      intro j u hj
      obtain ⟨b, o, h, hc⟩ := hR.reads j u hj
      cases h
      rw [Addr.add_lit]
      exact hc
    have hrun := Lib.run_append_grow_string (P := P) (w := w) t u o.type T i (.int .u8 0) ht hu hi hz ⟨g, 0, none⟩ n n (olds.map byV) (by rw [List.length_map, hsz]; omega) holds s2 (by omega) (by omega) (growslice_fits (by omega) (by rw [hb]; omega))
    have hge := grownCap_ge w (n + s2.size) n T
    have hcm := grownCap_le_maxLen w (n + s2.size) n T (by unfold maxLen; omega)
    obtain ⟨cap, hcap⟩ : ∃ cap, grownCap w (n + s2.size) n T = cap := ⟨_, rfl⟩
    rw [hcap] at hrun hge hcm
    obtain ⟨cur, hcur⟩ : ∃ cur, (olds.map byV).toArray ++ (Lib.strCells s2).toArray ++ Builtin.zeroCells (Value.int .u8 0).cells (cap - (n + s2.size)) = cur := ⟨_, rfl⟩
    rw [hcur] at hrun
    have hsl := Lib.strCells_length s2
    have hcs : cur.size = cap := by
      rw [← hcur]
      simp [Builtin.zeroCells, Value.cells, hsl]
      omega
    have hll : ((olds ++ s2.data.toList).map byV).length = n + s2.size := by
      rw [List.length_map, List.length_append]
      have : s2.data.toList.length = s2.size := by simp
      omega
    have htk : cur.toList.take (n + s2.size) = (olds ++ s2.data.toList).map byV := by
      have e : cur.toList = (olds ++ s2.data.toList).map byV ++ (Builtin.zeroCells (Value.int .u8 0).cells (cap - (n + s2.size))).toList := by
        rw [← hcur, List.map_append]
        simp
        rfl
      rw [e, ← hll]
      exact List.take_left
    have hM := (HO.drew).new (.cells cur T (0, 0)) (IsCells cur.toList T) (by simp [IsCells])
    have hsd : w.drew.heap.size = w.heap.size := rfl
    rw [hsd] at hM
    have hG : GRow T (.slice (some ⟨w.heap.size, 0, none⟩) (n + s2.size) cap) ((olds ++ s2.data.toList).map byV) [(w.heap.size, IsCells cur.toList T)] :=
      .inr ⟨w.heap.size, cap, cur.toList, by rw [hll], by rw [hll]; exact hge, hcm, by simpa using hcs, by rw [hll]; exact htk, rfl⟩
    unfold Oper.wp execOp
    simp only [ho, resolve, invoke, builtin, Sem.run_bind, Sem.run_pure, Result.andThen_ok, List.map_toArray, List.map_cons, List.map_nil, hs.eq, hx.eq, hrun]
    exact hK _ _ (h _ _ _ _ _ hG hM)
end
end Go.Proofs.YtcglbfpmcpammaaDoor
end
section
namespace Go.Proofs.YtcglbfpmcpammaaDoor
set_option linter.unusedVariables false
set_option linter.unusedSimpArgs false
open Go.RowKit Kit G Go.Proofs.YtcglbfpmcpammaaDoorW.PrintWords Go.Proofs.YtcglbfpmcpammaaDoorW.PrintMore
attribute [local irreducible] wpList Calls wpQuiet
set_option maxRecDepth 100000 in
set_option maxHeartbeats 4000000 in
theorem refFocus_calls (x0 x1 x2 x3 x4 x5 x6 : Bool) (x7 x8 x9 : Int) (is : Bool) (w : World) : GivesRow 15 #[.agg #[.bool x0, .bool x1, .bool x2, .bool x3, .bool x4, .bool x5, .bool x6, .int .i64 x7, .int .i64 x8, .int .i64 x9], .bool is] (focusL x3 is) w := by
  unfold GivesRow
  have HO := Mine.start w
  cases x3
  · go_enter Tryd.func15, Tryd.ntmps15
    go_wp2_with (first
      | ((with_reducible refine gate ?_); (first
      | ((with_reducible refine gateAt (N := 2) rfl ?_); refine own_boxF (T := 23) HO rfl rfl rfl ?_; clear HO; intro gB wN hggB HO; (try simp only [Act.put, List.setIfInBounds_toArray, List.set_cons_zero, List.set_cons_succ]))
      | ((refine own_load1 (T := 4) HO rfl rfl rfl (by first | exact .head _) Tryd.isAgg4 rfl ?_); (try simp only [Act.put, List.setIfInBounds_toArray, List.set_cons_zero, List.set_cons_succ]))
      | ((refine own_store1 (T := 4) HO rfl rfl rfl (by first | exact .const | exact .tmp rfl | exact .func) (by rfl) (by first | exact .here) Tryd.sizeOf4 (by repeat constructor) (by rfl) ?_); clear HO; intro wN HO; (try simp only [Act.put, List.setIfInBounds_toArray, List.set_cons_zero, List.set_cons_succ])))))
    go_ret
    exact ⟨_, rfl, HO.below, fRc_nil _⟩
  · cases is
    · go_enter Tryd.func15, Tryd.ntmps15
      go_wp2_with (first
      | ((with_reducible refine gate ?_); (first
      | ((with_reducible refine gateAt (N := 11) rfl ?_); refine own_litF HO rfl (n := 3) (cs := [Value.int .u8 27, Value.int .u8 91, Value.int .u8 79]) (T := 5) (by first | (go_simp; done) | (go_simp; rfl)) ?_; clear HO; intro gE wN hggE HO; (try simp only [Act.put, List.setIfInBounds_toArray, List.set_cons_zero, List.set_cons_succ]))
      | ((with_reducible refine gateAt (N := 12) rfl ?_); refine own_markF (l := outM) HO rfl rfl (.tmp rfl) Tryd.underlying24 Tryd.underlying5 rfl (by first | exact .here | exact .there (.here)) ?_; clear HO; intro wN HO hkN; clear hkN; (try simp only [Act.put, List.setIfInBounds_toArray, List.set_cons_zero, List.set_cons_succ]))
      | ((with_reducible refine gateAt (N := 2) rfl ?_); refine own_boxF (T := 23) HO rfl rfl rfl ?_; clear HO; intro gB wN hggB HO; (try simp only [Act.put, List.setIfInBounds_toArray, List.set_cons_zero, List.set_cons_succ]))
      | ((refine own_load1 (T := 4) HO rfl rfl rfl (by first | exact .head _) Tryd.isAgg4 rfl ?_); (try simp only [Act.put, List.setIfInBounds_toArray, List.set_cons_zero, List.set_cons_succ]))
      | ((refine own_store1 (T := 4) HO rfl rfl rfl (by first | exact .const | exact .tmp rfl | exact .func) (by rfl) (by first | exact .here) Tryd.sizeOf4 (by repeat constructor) (by rfl) ?_); clear HO; intro wN HO; (try simp only [Act.put, List.setIfInBounds_toArray, List.set_cons_zero, List.set_cons_succ])))))
      go_ret
      exact ⟨_, rfl, HO.below, some ⟨gE, 0, none⟩, 3, rfl, Nat.le_refl _, (HO.row (.head _)).reads⟩
    · go_enter Tryd.func15, Tryd.ntmps15
      go_wp2_with (first
      | ((with_reducible refine gate ?_); (first
      | ((with_reducible refine gateAt (N := 9) rfl ?_); refine own_litF HO rfl (n := 3) (cs := [Value.int .u8 27, Value.int .u8 91, Value.int .u8 73]) (T := 5) (by first | (go_simp; done) | (go_simp; rfl)) ?_; clear HO; intro gE wN hggE HO; (try simp only [Act.put, List.setIfInBounds_toArray, List.set_cons_zero, List.set_cons_succ]))
      | ((with_reducible refine gateAt (N := 10) rfl ?_); refine own_markF (l := inM) HO rfl rfl (.tmp rfl) Tryd.underlying24 Tryd.underlying5 rfl (by first | exact .here | exact .there (.here)) ?_; clear HO; intro wN HO hkN; clear hkN; (try simp only [Act.put, List.setIfInBounds_toArray, List.set_cons_zero, List.set_cons_succ]))
      | ((with_reducible refine gateAt (N := 2) rfl ?_); refine own_boxF (T := 23) HO rfl rfl rfl ?_; clear HO; intro gB wN hggB HO; (try simp only [Act.put, List.setIfInBounds_toArray, List.set_cons_zero, List.set_cons_succ]))
      | ((refine own_load1 (T := 4) HO rfl rfl rfl (by first | exact .head _) Tryd.isAgg4 rfl ?_); (try simp only [Act.put, List.setIfInBounds_toArray, List.set_cons_zero, List.set_cons_succ]))
      | ((refine own_store1 (T := 4) HO rfl rfl rfl (by first | exact .const | exact .tmp rfl | exact .func) (by rfl) (by first | exact .here) Tryd.sizeOf4 (by repeat constructor) (by rfl) ?_); clear HO; intro wN HO; (try simp only [Act.put, List.setIfInBounds_toArray, List.set_cons_zero, List.set_cons_succ])))))
      go_ret
      exact ⟨_, rfl, HO.below, some ⟨gE, 0, none⟩, 3, rfl, Nat.le_refl _, (HO.row (.head _)).reads⟩
set_option maxRecDepth 100000 in
set_option maxHeartbeats 4000000 in
theorem refSend_calls (x0 x1 x2 x3 x4 x5 x6 : Bool) (x7 x8 x9 : Int) (A : Option Addr) (c : Nat) (l : List UInt8) (hc : l.length ≤ c) (h5 : l.length ≤ 100000) (w : World) (hr : Reads w A (l.map byV)) :
    GivesRow 13 #[.agg #[.bool x0, .bool x1, .bool x2, .bool x3, .bool x4, .bool x5, .bool x6, .int .i64 x7, .int .i64 x8, .int .i64 x9], .slice A l.length c] (sendL x4 l) w := by
  unfold GivesRow
  have HO := Mine.start w
  have HCL : Hid (∀ W, Below w.heap.size w W → Calls Tryd.prog 11 #[.slice A l.length c] W fun e w' => ∃ v R, e = .returned v ∧ GRow 5 v ((cleanL l).map byV) R ∧ Mine W w' R) := Lib.hid fun W hW => refClean_calls A c l hc h5 W (hr.below hW)
  have hle := cleanL_le l
  cases x4
  · clear hr hc h5
    go_enter Tryd.func13, Tryd.ntmps13
    go_wp2_with (first
      | (go_at_call 11; refine (HCL.out _ HO.below).mono ?_; rintro eN wN ⟨v, R, rfl, hR, HM⟩; obtain ⟨p1, q1, c1, rfl⟩ := hR.form; obtain ⟨hq1, hrB, _, _⟩ := hR.readsT HM .here; rw [List.length_map] at hq1; have HQ1 := Lib.hid hq1; have HRB := Lib.hid hrB; have HGR := Lib.hid hR; clear hq1 hrB hR; have HON := HO.join HM; clear HO HM; have HO := HON; clear HON; (simp only [List.nil_append, List.cons_append] at HO))
      | ((with_reducible refine gate ?_); (first
      | ((with_reducible refine gateAt (N := 2) rfl ?_); refine own_boxF (T := 23) HO rfl rfl rfl ?_; clear HO; intro gM wN hggM HO; (try simp only [Act.put, List.setIfInBounds_toArray, List.set_cons_zero, List.set_cons_succ]))
      | ((refine own_load1 (T := 4) HO rfl rfl rfl (by first | exact .head _) Tryd.isAgg4 rfl ?_); (try simp only [Act.put, List.setIfInBounds_toArray, List.set_cons_zero, List.set_cons_succ]))
      | ((refine own_store1 (T := 4) HO rfl rfl rfl (by first | exact .const | exact .tmp rfl | exact .func) (by rfl) (by first | exact .here) Tryd.sizeOf4 (by repeat constructor) (by rfl) ?_); clear HO; intro wN HO; (try simp only [Act.put, List.setIfInBounds_toArray, List.set_cons_zero, List.set_cons_succ])))))
    go_ret
    have HO2 := HO.less (List.sublist_cons_self _ _)
    exact ⟨_, rfl, HO.below, fRc_of HGR.out HO2⟩
  · have hs6 : 6 + (cleanL l).length ≤ 1000000 := by omega
    have HS6 := Lib.hid hs6
    have HBY : Hid ((openM ++ cleanL l).length + (⟨#[27, 91, 50, 48, 49, 126]⟩ : ByteArray).size ≤ 140737488355328) := Lib.hid (by
      have : (⟨#[27, 91, 50, 48, 49, 126]⟩ : ByteArray).size = 6 := rfl
      rw [this, List.length_append]
      have : openM.length = 6 := rfl
      omega)
    by_cases h0 : 0 < (cleanL l).length
    · have HNE := Lib.hid h0
      clear hr hc h5 hle hs6 h0
      go_enter Tryd.func13, Tryd.ntmps13
      go_wp2_with (first
        | ((go_at_call 11; refine (HCL.out _ HO.below).mono ?_; rintro eN wN ⟨v, R, rfl, hR, HM⟩; obtain ⟨p1, q1, c1, rfl⟩ := hR.form; obtain ⟨hq1, hrB, _, _⟩ := hR.readsT HM .here; rw [List.length_map] at hq1; have HQ1 := Lib.hid hq1; have HRB := Lib.hid hrB; have HGR := Lib.hid hR; clear hq1 hrB hR; have HON := HO.join HM; clear HO HM; have HO := HON; clear HON; (simp only [List.nil_append, List.cons_append] at HO)); have hq := HQ1.out; subst hq)
        | (first
      | ((with_reducible refine gate ?_); (first
      | ((with_reducible refine gateAt (N := 13) rfl ?_); refine own_litF HO rfl (n := 6) (cs := [Value.int .u8 27, Value.int .u8 91, Value.int .u8 50, Value.int .u8 48, Value.int .u8 48, Value.int .u8 126]) (T := 5) (by first | (go_simp; done) | (go_simp; rfl)) ?_; clear HO; intro gE wN hggE HO; (try simp only [Act.put, List.setIfInBounds_toArray, List.set_cons_zero, List.set_cons_succ]))
      | ((with_reducible refine gateAt (N := 14) rfl ?_); refine own_markF (l := openM) HO rfl rfl (.tmp rfl) Tryd.underlying24 Tryd.underlying5 rfl (by first | exact .here | exact .there (.here)) ?_; clear HO; intro wN HO hkN; clear hkN; (try simp only [Act.put, List.setIfInBounds_toArray, List.set_cons_zero, List.set_cons_succ]))
      | ((with_reducible refine gateAt (N := 17) rfl ?_); refine own_appendMG (T := 5) (t := 24) (n := 6) (olds := openM) (news := cleanL l) HO (.head _) rfl rfl (.tmp rfl) (.tmp rfl) Tryd.underlying24 (by kernel_rfl) rfl HNE.out (HGR.out.reads (bs := []) (HO.less (.cons _ (.cons _ (List.Sublist.refl _))))).2.1 HS6.out ?_; clear HO; intro p2 n2 c2 wN R2 hR2 HO; (simp only [List.nil_append, List.cons_append] at HO); (try simp only [Act.put, List.setIfInBounds_toArray, List.set_cons_zero, List.set_cons_succ]))
      | ((with_reducible refine gateAt (N := 19) rfl ?_); refine own_appendStr (T := 5) (t := 24) (u := 9) (l := openM ++ cleanL l) (s2 := ⟨#[27, 91, 50, 48, 49, 126]⟩) HO hR2 (by first | exact Tl.app | exact Tl.cons Tl.app | exact Tl.cons (Tl.cons Tl.app)) rfl rfl (.tmp rfl) (by first | exact .const | exact .tmp rfl) Tryd.underlying24 Tryd.underlying9 (by kernel_rfl) HBY.out ?_; clear HO; intro p3 n3 c3 wN R3 hR3 HO; (try simp only [Act.put, List.setIfInBounds_toArray, List.set_cons_zero, List.set_cons_succ]))
      | ((with_reducible refine gateAt (N := 2) rfl ?_); refine own_boxF (T := 23) HO rfl rfl rfl ?_; clear HO; intro gM wN hggM HO; (try simp only [Act.put, List.setIfInBounds_toArray, List.set_cons_zero, List.set_cons_succ]))
      | ((refine own_load1 (T := 4) HO rfl rfl rfl (by first | exact .head _ | exact .tail _ (.head _)) Tryd.isAgg4 rfl ?_); (try simp only [Act.put, List.setIfInBounds_toArray, List.set_cons_zero, List.set_cons_succ]))
      | ((refine own_store1 (T := 4) HO rfl rfl rfl (by first | exact .const | exact .tmp rfl | exact .func) (by rfl) (by first | exact .here | exact .there (.here)) Tryd.sizeOf4 (by repeat constructor) (by rfl) ?_); clear HO; intro wN HO; (try simp only [Act.put, List.setIfInBounds_toArray, List.set_cons_zero, List.set_cons_succ]))))))
      go_ret
      have hfin : GRow 5 (.slice p3 n3 c3) ((sendL true l).map byV) R3 := hR3
      exact ⟨_, rfl, HO.below, fRc_of hfin HO⟩
    · have hz : (cleanL l).length = 0 := by omega
      have HZ := Lib.hid hz
      clear hr hc h5 hle hs6 h0 hz
      go_enter Tryd.func13, Tryd.ntmps13
      go_wp2_with (first
        | ((go_at_call 11; refine (HCL.out _ HO.below).mono ?_; rintro eN wN ⟨v, R, rfl, hR, HM⟩; obtain ⟨p1, q1, c1, rfl⟩ := hR.form; obtain ⟨hq1, hrB, _, _⟩ := hR.readsT HM .here; rw [List.length_map] at hq1; have HQ1 := Lib.hid hq1; have HRB := Lib.hid hrB; have HGR := Lib.hid hR; clear hq1 hrB hR; have HON := HO.join HM; clear HO HM; have HO := HON; clear HON; (simp only [List.nil_append, List.cons_append] at HO)); have hq := HQ1.out; rw [HZ.out] at hq; subst hq)
        | (first
      | ((with_reducible refine gate ?_); (first
      | ((with_reducible refine gateAt (N := 13) rfl ?_); refine own_litF HO rfl (n := 6) (cs := [Value.int .u8 27, Value.int .u8 91, Value.int .u8 50, Value.int .u8 48, Value.int .u8 48, Value.int .u8 126]) (T := 5) (by first | (go_simp; done) | (go_simp; rfl)) ?_; clear HO; intro gE wN hggE HO; (try simp only [Act.put, List.setIfInBounds_toArray, List.set_cons_zero, List.set_cons_succ]))
      | ((with_reducible refine gateAt (N := 14) rfl ?_); refine own_markF (l := openM) HO rfl rfl (.tmp rfl) Tryd.underlying24 Tryd.underlying5 rfl (by first | exact .here | exact .there (.here)) ?_; clear HO; intro wN HO hkN; clear hkN; (try simp only [Act.put, List.setIfInBounds_toArray, List.set_cons_zero, List.set_cons_succ]))
      | ((with_reducible refine gateAt (N := 17) rfl ?_); refine own_appendM0 (T := 5) (t := 24) (n := 6) rfl rfl (.tmp rfl) (.tmp rfl) Tryd.underlying24 (by kernel_rfl) ?_; (try simp only [Act.put, List.setIfInBounds_toArray, List.set_cons_zero, List.set_cons_succ]))
      | ((with_reducible refine gateAt (N := 19) rfl ?_); refine own_appendMS (T := 5) (t := 24) (u := 9) (n := 6) (olds := openM) (s2 := ⟨#[27, 91, 50, 48, 49, 126]⟩) HO (.head _) rfl rfl (.tmp rfl) (by first | exact .const | exact .tmp rfl) Tryd.underlying24 Tryd.underlying9 (by kernel_rfl) (by decide) (by decide) ?_; clear HO; intro p3 n3 c3 wN R3 hR3 HO; (simp only [List.nil_append, List.cons_append] at HO); (try simp only [Act.put, List.setIfInBounds_toArray, List.set_cons_zero, List.set_cons_succ]))
      | ((with_reducible refine gateAt (N := 2) rfl ?_); refine own_boxF (T := 23) HO rfl rfl rfl ?_; clear HO; intro gM wN hggM HO; (try simp only [Act.put, List.setIfInBounds_toArray, List.set_cons_zero, List.set_cons_succ]))
      | ((refine own_load1 (T := 4) HO rfl rfl rfl (by first | exact .head _ | exact .tail _ (.head _)) Tryd.isAgg4 rfl ?_); (try simp only [Act.put, List.setIfInBounds_toArray, List.set_cons_zero, List.set_cons_succ]))
      | ((refine own_store1 (T := 4) HO rfl rfl rfl (by first | exact .const | exact .tmp rfl | exact .func) (by rfl) (by first | exact .here | exact .there (.here)) Tryd.sizeOf4 (by repeat constructor) (by rfl) ?_); clear HO; intro wN HO; (try simp only [Act.put, List.setIfInBounds_toArray, List.set_cons_zero, List.set_cons_succ]))))))
      go_ret
      have hcl : cleanL l = [] := List.eq_nil_of_length_eq_zero HZ.out
      have hfin : GRow 5 (.slice p3 n3 c3) ((sendL true l).map byV) R3 := by
        have e : sendL true l = openM ++ (⟨#[27, 91, 50, 48, 49, 126]⟩ : ByteArray).data.toList := by
          unfold sendL sentP
          rw [hcl]
          rfl
        rw [e]
        exact hR3
      exact ⟨_, rfl, HO.below, fRc_of hfin (HO.less (.cons _ (.cons _ (List.sublist_append_right _ _))))⟩
end Go.Proofs.YtcglbfpmcpammaaDoor
end
section
namespace Go.Proofs.YtcglbfpmcpammaaDoor
set_option linter.unusedVariables false
set_option linter.unusedSimpArgs false
open Go.RowKit Kit G Go.Proofs.YtcglbfpmcpammaaDoorW.PrintWords Go.Proofs.YtcglbfpmcpammaaDoorW.PrintMore
attribute [local irreducible] wpList Calls wpQuiet
set_option maxRecDepth 100000 in
set_option maxHeartbeats 8000000 in
theorem pasteSends_calls (x0 x1 x2 x3 x4 x5 x6 : Bool) (x7 x8 x9 : Int) (A : Option Addr) (n c : Nat) (l : List UInt8) (hl : l.length = n) (hc : n ≤ c) (is : Bool) (w : World) (hT : Tab w) (hr : Reads w A (l.map byV)) : Calls Tryd.prog 3 #[.agg #[.bool x0, .bool x1, .bool x2, .bool x3, .bool x4, .bool x5, .bool x6, .int .i64 x7, .int .i64 x8, .int .i64 x9], .slice A n c, .bool is] w fun e w' => e = .returned (.bool true) ∧ Below w.heap.size w w' := by
  subst hl
  have HO := Mine.start w
  have HT := Lib.hid fun W (hW : Below w.heap.size w W) => Tab.below hT hW
  by_cases h300 : 300 < l.length
  · have d1 : decide ((300 : Int) < (l.length : Int)) = true := decide_eq_true (by omega)
    have d2 : decide (300 < l.length) = true := decide_eq_true h300
    clear hT hr hc
    go_enter Tryd.func3, Tryd.ntmps3
    go_wp2_with (first
      | (go_at_call 9; refine (awake17_calls _ (HT.out _ HO.below)).mono ?_; rintro eN wN ⟨rfl, hbN⟩; have HON := HO.call hbN; clear HO hbN; have HO := HON; clear HON)
      | (first
      | ((with_reducible refine gate ?_); (first
      | ((with_reducible refine gateAt (N := 3) rfl ?_); refine own_boxF (T := 23) HO rfl rfl rfl ?_; clear HO; intro gM wN hggM HO; (try simp only [Act.put, List.setIfInBounds_toArray, List.set_cons_zero, List.set_cons_succ]))))))
    go_ret
    exact ⟨rfl, HO.below⟩
  · have HCA := Lib.hid fun W (hW : Below w.heap.size w W) => pasteClean_calls A c l hc (by omega) W (hr.below hW)
    have HCB := Lib.hid fun W (hW : Below w.heap.size w W) => refClean_calls A c l hc (by omega) W (hr.below hW)
    have HSA := Lib.hid fun W (hW : Below w.heap.size w W) => pasteSend_calls x0 x1 x2 x3 x4 x5 x6 x7 x8 x9 A c l hc (by omega) W (HT.out W hW) (hr.below hW)
    have HSB := Lib.hid fun W (hW : Below w.heap.size w W) => refSend_calls x0 x1 x2 x3 x4 x5 x6 x7 x8 x9 A c l hc (by omega) W (hr.below hW)
    have HFA := Lib.hid fun W (hW : Below w.heap.size w W) => focus_calls x0 x1 x2 x3 x4 x5 x6 x7 x8 x9 is W (HT.out W hW)
    have HFB := Lib.hid fun W (hW : Below w.heap.size w W) => refFocus_calls x0 x1 x2 x3 x4 x5 x6 x7 x8 x9 is W
    unfold GivesRow at HSB HFB
    have d1 : decide ((300 : Int) < (l.length : Int)) = false := decide_eq_false (by omega)
    have d2 : ¬ 300 < l.length := h300
    clear hT hr hc
    go_enter Tryd.func3, Tryd.ntmps3
    go_wp2_with (first
      | (go_at_call 9; refine (awake17_calls _ (HT.out _ HO.below)).mono ?_; rintro eN wN ⟨rfl, hbN⟩; have HON := HO.call hbN; clear HO hbN; have HO := HON; clear HON)
      | (first
      | ((with_reducible refine gate ?_); (first
      | ((with_reducible refine gateAt (N := 3) rfl ?_); refine own_boxF (T := 23) HO rfl rfl rfl ?_; clear HO; intro gM wN hggM HO; (try simp only [Act.put, List.setIfInBounds_toArray, List.set_cons_zero, List.set_cons_succ]))))))
    refine region_law 32 [fIs (.bool true), fIs (.bool true), fIs (.slice A l.length c), fRc (cleanL l), fIs (.string ⟨(cleanL l).toArray⟩), fIs (.slice A l.length c), fRc (cleanL l), fIs (.string ⟨(cleanL l).toArray⟩), fIs (.bool true), fIs (.bool true), fIs (.bool true), fIs (.agg #[.bool x0, .bool x1, .bool x2, .bool x3, .bool x4, .bool x5, .bool x6, .int .i64 x7, .int .i64 x8, .int .i64 x9]), fIs (.slice A l.length c), fRc (sendL x4 l), fIs (.string ⟨(sendL x4 l).toArray⟩), fIs (.agg #[.bool x0, .bool x1, .bool x2, .bool x3, .bool x4, .bool x5, .bool x6, .int .i64 x7, .int .i64 x8, .int .i64 x9]), fIs (.slice A l.length c), fRc (sendL x4 l), fIs (.string ⟨(sendL x4 l).toArray⟩), fIs (.bool true), fIs (.bool true), fIs (.bool true), fIs (.agg #[.bool x0, .bool x1, .bool x2, .bool x3, .bool x4, .bool x5, .bool x6, .int .i64 x7, .int .i64 x8, .int .i64 x9]), fIs (.bool is), fRc (focusL x3 is), fIs (.string ⟨(focusL x3 is).toArray⟩), fIs (.agg #[.bool x0, .bool x1, .bool x2, .bool x3, .bool x4, .bool x5, .bool x6, .int .i64 x7, .int .i64 x8, .int .i64 x9]), fIs (.bool is), fRc (focusL x3 is), fIs (.string ⟨(focusL x3 is).toArray⟩), fIs (.bool true), fIs (.bool true)] HO (by kernel_rfl) (by kernel_rfl) (by decide) (by kernel_rfl)
      (stays_cons (Stays.fIs _) (stays_cons (Stays.fIs _) (stays_cons (Stays.fIs _) (stays_cons (Stays.fRc _) (stays_cons (Stays.fIs _) (stays_cons (Stays.fIs _) (stays_cons (Stays.fRc _) (stays_cons (Stays.fIs _) (stays_cons (Stays.fIs _) (stays_cons (Stays.fIs _) (stays_cons (Stays.fIs _) (stays_cons (Stays.fIs _) (stays_cons (Stays.fIs _) (stays_cons (Stays.fRc _) (stays_cons (Stays.fIs _) (stays_cons (Stays.fIs _) (stays_cons (Stays.fIs _) (stays_cons (Stays.fRc _) (stays_cons (Stays.fIs _) (stays_cons (Stays.fIs _) (stays_cons (Stays.fIs _) (stays_cons (Stays.fIs _) (stays_cons (Stays.fIs _) (stays_cons (Stays.fIs _) (stays_cons (Stays.fRc _) (stays_cons (Stays.fIs _) (stays_cons (Stays.fIs _) (stays_cons (Stays.fIs _) (stays_cons (Stays.fRc _) (stays_cons (Stays.fIs _) (stays_cons (Stays.fIs _) (stays_cons (Stays.fIs _) stays_nil)))))))))))))))))))))))))))))))) ?_
    intro vals A hA
    simp [fillL, dstOf, List.range, List.range.loop, Act.put] at hA
    subst hA
    refine ⟨⟨?_, ?_, ?_, ?_, ?_, ?_, ?_, ?_, ?_, ?_, ?_, ?_, ?_, ?_, ?_, ?_, ?_, ?_, ?_, ?_, ?_, ?_, ?_, ?_, ?_, ?_, ?_, ?_, ?_, ?_, ?_, ?_, trivial⟩, ?_⟩
    all_goals intro W hd hM hb0
    case refine_1 =>
      skip
      exact st_val rfl (by simp only [execOp]; first | (go_simp; done) | (go_simp; rfl)) rfl
    case refine_2 =>
      have v0 : vals 0 = .bool true := hd 0 (by kernel_rfl)
      rw [v0]
      exact st_val rfl (by simp only [execOp]; first | (go_simp; done) | (go_simp; rfl)) rfl
    case refine_3 =>
      have v1 : vals 1 = .bool true := hd 1 (by kernel_rfl)
      rw [v1]
      exact st_val rfl (by simp only [execOp]; first | (go_simp; done) | (go_simp; rfl)) rfl
    case refine_4 =>
      have v1 : vals 1 = .bool true := hd 1 (by kernel_rfl)
      have v2 : vals 2 = .slice A l.length c := hd 2 (by kernel_rfl)
      rw [v1, v2]
      exact st_call rfl (by simp only [execOp]; first | (go_simp; done) | (go_simp; rfl)) (HCA.out W hM.below) (by rintro e w' ⟨v, R, rfl, hR, hMM⟩; exact ⟨_, rfl, hMM.below, fRc_of hR hMM⟩)
    case refine_5 =>
      have v1 : vals 1 = .bool true := hd 1 (by kernel_rfl)
      rw [v1]
      obtain ⟨pA, cA, eA, hcA, hrA⟩ : fRc (cleanL l) (vals 3) W := hd 3 (by kernel_rfl)
      rw [eA]
      have hcv := run_str_of (P := Tryd.prog) (src := 24) (dst := 9) Tryd.underlying24 Tryd.underlying5 Tryd.underlying9 (c := cA) hrA rfl
      exact st_val rfl (by simp only [execOp]; first | (go_simp; done) | (go_simp; rfl)) rfl
    case refine_6 =>
      have v1 : vals 1 = .bool true := hd 1 (by kernel_rfl)
      rw [v1]
      exact st_val rfl (by simp only [execOp]; first | (go_simp; done) | (go_simp; rfl)) rfl
    case refine_7 =>
      have v1 : vals 1 = .bool true := hd 1 (by kernel_rfl)
      have v5 : vals 5 = .slice A l.length c := hd 5 (by kernel_rfl)
      rw [v1, v5]
      exact st_call rfl (by simp only [execOp]; first | (go_simp; done) | (go_simp; rfl)) (HCB.out W hM.below) (by rintro e w' ⟨v, R, rfl, hR, hMM⟩; exact ⟨_, rfl, hMM.below, fRc_of hR hMM⟩)
    case refine_8 =>
      have v1 : vals 1 = .bool true := hd 1 (by kernel_rfl)
      rw [v1]
      obtain ⟨pA, cA, eA, hcA, hrA⟩ : fRc (cleanL l) (vals 6) W := hd 6 (by kernel_rfl)
      rw [eA]
      have hcv := run_str_of (P := Tryd.prog) (src := 24) (dst := 9) Tryd.underlying24 Tryd.underlying5 Tryd.underlying9 (c := cA) hrA rfl
      exact st_val rfl (by simp only [execOp]; first | (go_simp; done) | (go_simp; rfl)) rfl
    case refine_9 =>
      have v1 : vals 1 = .bool true := hd 1 (by kernel_rfl)
      have v4 : vals 4 = .string ⟨(cleanL l).toArray⟩ := hd 4 (by kernel_rfl)
      have v7 : vals 7 = .string ⟨(cleanL l).toArray⟩ := hd 7 (by kernel_rfl)
      rw [v1, v4, v7]
      have hse := beqD (cleanL l) (cleanL l)
      rw [decide_eq_true rfl] at hse
      exact st_val rfl (by simp only [execOp]; first | (go_simp; done) | (go_simp; rfl)) rfl
    case refine_10 =>
      have v1 : vals 1 = .bool true := hd 1 (by kernel_rfl)
      have v8 : vals 8 = .bool true := hd 8 (by kernel_rfl)
      rw [v1, v8]
      exact st_val rfl (by simp only [execOp]; first | (go_simp; done) | (go_simp; rfl)) rfl
    case refine_11 =>
      have v9 : vals 9 = .bool true := hd 9 (by kernel_rfl)
      rw [v9]
      exact st_val rfl (by simp only [execOp]; first | (go_simp; done) | (go_simp; rfl)) rfl
    case refine_12 =>
      have v10 : vals 10 = .bool true := hd 10 (by kernel_rfl)
      rw [v10]
      exact st_load hM rfl rfl rfl (.head _) Tryd.isAgg23 Tryd.sizeOf23 (by repeat constructor) rfl
    case refine_13 =>
      have v10 : vals 10 = .bool true := hd 10 (by kernel_rfl)
      rw [v10]
      exact st_val rfl (by simp only [execOp]; first | (go_simp; done) | (go_simp; rfl)) rfl
    case refine_14 =>
      have v10 : vals 10 = .bool true := hd 10 (by kernel_rfl)
      have v11 : vals 11 = .agg #[.bool x0, .bool x1, .bool x2, .bool x3, .bool x4, .bool x5, .bool x6, .int .i64 x7, .int .i64 x8, .int .i64 x9] := hd 11 (by kernel_rfl)
      have v12 : vals 12 = .slice A l.length c := hd 12 (by kernel_rfl)
      rw [v10, v11, v12]
      exact st_call rfl (by simp only [execOp]; first | (go_simp; done) | (go_simp; rfl)) (HSA.out W hM.below) (by rintro e w' ⟨v, R, rfl, hR, hMM⟩; exact ⟨_, rfl, hMM.below, fRc_of hR hMM⟩)
    case refine_15 =>
      have v10 : vals 10 = .bool true := hd 10 (by kernel_rfl)
      rw [v10]
      obtain ⟨pA, cA, eA, hcA, hrA⟩ : fRc (sendL x4 l) (vals 13) W := hd 13 (by kernel_rfl)
      rw [eA]
      have hcv := run_str_of (P := Tryd.prog) (src := 24) (dst := 9) Tryd.underlying24 Tryd.underlying5 Tryd.underlying9 (c := cA) hrA rfl
      exact st_val rfl (by simp only [execOp]; first | (go_simp; done) | (go_simp; rfl)) rfl
    case refine_16 =>
      have v10 : vals 10 = .bool true := hd 10 (by kernel_rfl)
      rw [v10]
      exact st_load hM rfl rfl rfl (.head _) Tryd.isAgg23 Tryd.sizeOf23 (by repeat constructor) rfl
    case refine_17 =>
      have v10 : vals 10 = .bool true := hd 10 (by kernel_rfl)
      rw [v10]
      exact st_val rfl (by simp only [execOp]; first | (go_simp; done) | (go_simp; rfl)) rfl
    case refine_18 =>
      have v10 : vals 10 = .bool true := hd 10 (by kernel_rfl)
      have v15 : vals 15 = .agg #[.bool x0, .bool x1, .bool x2, .bool x3, .bool x4, .bool x5, .bool x6, .int .i64 x7, .int .i64 x8, .int .i64 x9] := hd 15 (by kernel_rfl)
      have v16 : vals 16 = .slice A l.length c := hd 16 (by kernel_rfl)
      rw [v10, v15, v16]
      exact st_call rfl (by simp only [execOp]; first | (go_simp; done) | (go_simp; rfl)) (HSB.out W hM.below) (by rintro e w' ⟨v, rfl, hb, hf⟩; exact ⟨_, rfl, hb, hf⟩)
    case refine_19 =>
      have v10 : vals 10 = .bool true := hd 10 (by kernel_rfl)
      rw [v10]
      obtain ⟨pA, cA, eA, hcA, hrA⟩ : fRc (sendL x4 l) (vals 17) W := hd 17 (by kernel_rfl)
      rw [eA]
      have hcv := run_str_of (P := Tryd.prog) (src := 24) (dst := 9) Tryd.underlying24 Tryd.underlying5 Tryd.underlying9 (c := cA) hrA rfl
      exact st_val rfl (by simp only [execOp]; first | (go_simp; done) | (go_simp; rfl)) rfl
    case refine_20 =>
      have v10 : vals 10 = .bool true := hd 10 (by kernel_rfl)
      have v14 : vals 14 = .string ⟨(sendL x4 l).toArray⟩ := hd 14 (by kernel_rfl)
      have v18 : vals 18 = .string ⟨(sendL x4 l).toArray⟩ := hd 18 (by kernel_rfl)
      rw [v10, v14, v18]
      have hse := beqD (sendL x4 l) (sendL x4 l)
      rw [decide_eq_true rfl] at hse
      exact st_val rfl (by simp only [execOp]; first | (go_simp; done) | (go_simp; rfl)) rfl
    case refine_21 =>
      have v10 : vals 10 = .bool true := hd 10 (by kernel_rfl)
      have v19 : vals 19 = .bool true := hd 19 (by kernel_rfl)
      rw [v10, v19]
      exact st_val rfl (by simp only [execOp]; first | (go_simp; done) | (go_simp; rfl)) rfl
    case refine_22 =>
      have v20 : vals 20 = .bool true := hd 20 (by kernel_rfl)
      rw [v20]
      exact st_val rfl (by simp only [execOp]; first | (go_simp; done) | (go_simp; rfl)) rfl
    case refine_23 =>
      have v21 : vals 21 = .bool true := hd 21 (by kernel_rfl)
      rw [v21]
      exact st_load hM rfl rfl rfl (.head _) Tryd.isAgg23 Tryd.sizeOf23 (by repeat constructor) rfl
    case refine_24 =>
      have v21 : vals 21 = .bool true := hd 21 (by kernel_rfl)
      rw [v21]
      exact st_val rfl (by simp only [execOp]; first | (go_simp; done) | (go_simp; rfl)) rfl
    case refine_25 =>
      have v21 : vals 21 = .bool true := hd 21 (by kernel_rfl)
      have v22 : vals 22 = .agg #[.bool x0, .bool x1, .bool x2, .bool x3, .bool x4, .bool x5, .bool x6, .int .i64 x7, .int .i64 x8, .int .i64 x9] := hd 22 (by kernel_rfl)
      have v23 : vals 23 = .bool is := hd 23 (by kernel_rfl)
      rw [v21, v22, v23]
      exact st_call rfl (by simp only [execOp]; first | (go_simp; done) | (go_simp; rfl)) (HFA.out W hM.below) (by rintro e w' ⟨v, R, rfl, hR, hMM⟩; exact ⟨_, rfl, hMM.below, fRc_of hR hMM⟩)
    case refine_26 =>
      have v21 : vals 21 = .bool true := hd 21 (by kernel_rfl)
      rw [v21]
      obtain ⟨pA, cA, eA, hcA, hrA⟩ : fRc (focusL x3 is) (vals 24) W := hd 24 (by kernel_rfl)
      rw [eA]
      have hcv := run_str_of (P := Tryd.prog) (src := 24) (dst := 9) Tryd.underlying24 Tryd.underlying5 Tryd.underlying9 (c := cA) hrA rfl
      exact st_val rfl (by simp only [execOp]; first | (go_simp; done) | (go_simp; rfl)) rfl
    case refine_27 =>
      have v21 : vals 21 = .bool true := hd 21 (by kernel_rfl)
      rw [v21]
      exact st_load hM rfl rfl rfl (.head _) Tryd.isAgg23 Tryd.sizeOf23 (by repeat constructor) rfl
    case refine_28 =>
      have v21 : vals 21 = .bool true := hd 21 (by kernel_rfl)
      rw [v21]
      exact st_val rfl (by simp only [execOp]; first | (go_simp; done) | (go_simp; rfl)) rfl
    case refine_29 =>
      have v21 : vals 21 = .bool true := hd 21 (by kernel_rfl)
      have v26 : vals 26 = .agg #[.bool x0, .bool x1, .bool x2, .bool x3, .bool x4, .bool x5, .bool x6, .int .i64 x7, .int .i64 x8, .int .i64 x9] := hd 26 (by kernel_rfl)
      have v27 : vals 27 = .bool is := hd 27 (by kernel_rfl)
      rw [v21, v26, v27]
      exact st_call rfl (by simp only [execOp]; first | (go_simp; done) | (go_simp; rfl)) (HFB.out W hM.below) (by rintro e w' ⟨v, rfl, hb, hf⟩; exact ⟨_, rfl, hb, hf⟩)
    case refine_30 =>
      have v21 : vals 21 = .bool true := hd 21 (by kernel_rfl)
      rw [v21]
      obtain ⟨pA, cA, eA, hcA, hrA⟩ : fRc (focusL x3 is) (vals 28) W := hd 28 (by kernel_rfl)
      rw [eA]
      have hcv := run_str_of (P := Tryd.prog) (src := 24) (dst := 9) Tryd.underlying24 Tryd.underlying5 Tryd.underlying9 (c := cA) hrA rfl
      exact st_val rfl (by simp only [execOp]; first | (go_simp; done) | (go_simp; rfl)) rfl
    case refine_31 =>
      have v21 : vals 21 = .bool true := hd 21 (by kernel_rfl)
      have v25 : vals 25 = .string ⟨(focusL x3 is).toArray⟩ := hd 25 (by kernel_rfl)
      have v29 : vals 29 = .string ⟨(focusL x3 is).toArray⟩ := hd 29 (by kernel_rfl)
      rw [v21, v25, v29]
      have hse := beqD (focusL x3 is) (focusL x3 is)
      rw [decide_eq_true rfl] at hse
      exact st_val rfl (by simp only [execOp]; first | (go_simp; done) | (go_simp; rfl)) rfl
    case refine_32 =>
      have v21 : vals 21 = .bool true := hd 21 (by kernel_rfl)
      have v30 : vals 30 = .bool true := hd 30 (by kernel_rfl)
      rw [v21, v30]
      exact st_val rfl (by simp only [execOp]; first | (go_simp; done) | (go_simp; rfl)) rfl
    case refine_33 =>
      have v31 : vals 31 = .bool true := hd 31 (by omega)
      rw [v31]
      simp only [List.drop_succ_cons, List.drop_zero]
      have HO := hM
      clear hM hd hb0
      go_wp2
      go_ret
      exact ⟨rfl, HO.below⟩
end Go.Proofs.YtcglbfpmcpammaaDoor
end
