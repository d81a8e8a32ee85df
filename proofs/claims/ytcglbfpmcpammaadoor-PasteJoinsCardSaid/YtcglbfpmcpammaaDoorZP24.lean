/- P: texts run together by shake.py: KitY KitM PuU PaI PaX. -/
import Derived.ArgAppend
import Derived.Below
import Derived.BigQuiet
import Derived.Deep.AppendLies
import Derived.Deep.CutBlock
import Derived.Deep.DeepCutAuto
import Derived.Deep.Draws
import Derived.Deep.LoopGhost
import Derived.Deep.OwnRows
import Derived.Deep.Quiet
import Derived.Deep.QuietTactic
import Derived.Deep.RegionHeld3
import Derived.KernelRfl
import Derived.Laws.AppendOwn
import Derived.Laws.AppendOwnNone
import Derived.Laws.BitsAllLaws
import Derived.Laws.BitsLemmas
import Derived.Laws.BytesArg
import Derived.Laws.Concat
import Derived.Laws.CopyRow
import Derived.Laws.IdiomCopy
import Derived.Laws.IdiomStrings
import Derived.Laws.MakeOwn
import Derived.Laws.OwnMore
import Derived.Laws.Rows
import Derived.Laws.Slices
import Derived.Laws.StructEq
import Derived.Laws.Tables
import Derived.Lib.AppendIntMem
import Derived.Lib.AppendStr
import Derived.Lib.AppendZeros
import Derived.Lib.Bytes
import Derived.Lib.ConvBytes
import Derived.Lib.Hide
import Derived.Lib.ItoaLen
import Derived.Lib.ItoaNum
import Derived.Lib.LaidTab
import Derived.Lib.OthersKept
import Derived.Lib.SliceRun
import Derived.Lib.TrimU
import Derived.LoopIn
import Derived.MapKept
import Derived.Maps.AppendAt
import Derived.Orders
import Derived.OrdersHeld
import Derived.OrdersIn
import Derived.OwnWalk
import Derived.RangeFuncCalls
import Derived.RangeFuncNested
import Derived.RangeFuncWrites
import Derived.RowKit
import Derived.RowKit3
import Derived.Shelf.Bytes.SlEqualAll
import Derived.Shelf.Bytes.SlSearch0
import Derived.Shelf.Bytes.SlSmallAll
import Derived.Shelf.Bytes.Small
import Derived.Shelf.LaysM
import Derived.Shelf.Slices.Empties2
import Derived.Shelf.Slices.Equal
import Derived.Shelf.Small.Strs
import Derived.Shelf.Small.Utf8
import Derived.Shelf.Strconv.Itoa0
import Derived.Shelf.Strconv.Itoa1
import Derived.Shelf.Strconv.Itoa2
import Derived.Shelf.Strconv.Itoa3
import Derived.Shelf.Strings.Builder1
import Derived.Shelf.Strings.Builder2
import Derived.Shelf.Strings.Builder2Cap
import Derived.Shelf.Strings.BuilderCap
import Derived.Shelf.Strings.BuilderF
import Derived.Shelf.Strings.BuilderK
import Derived.Shelf.Strings.OnBuilder
import Derived.Shelf.Strings.Runes
import Derived.Shelf.Strings.Search1
import Derived.Still
import Derived.Tactics
import Derived.TacticsIn
import Derived.Test.YtcglbfpmcpammaaDoorProg
import Derived.WalkKit
import Derived.WideLaws
import Derived.Test.YtcglbfpmcpammaaDoorZP1
import Derived.Test.YtcglbfpmcpammaaDoorZP2
import Derived.Test.YtcglbfpmcpammaaDoorZP3
import Derived.Test.YtcglbfpmcpammaaDoorZP4
import Derived.Test.YtcglbfpmcpammaaDoorZP5
import Derived.Test.YtcglbfpmcpammaaDoorZP6
import Derived.Test.YtcglbfpmcpammaaDoorZP7
import Derived.Test.YtcglbfpmcpammaaDoorZP8
import Derived.Test.YtcglbfpmcpammaaDoorZP9
import Derived.Test.YtcglbfpmcpammaaDoorZP10
import Derived.Test.YtcglbfpmcpammaaDoorZP11
import Derived.Test.YtcglbfpmcpammaaDoorZP12
import Derived.Test.YtcglbfpmcpammaaDoorZP13
import Derived.Test.YtcglbfpmcpammaaDoorZP15
import Derived.Test.YtcglbfpmcpammaaDoorZP17
import Derived.Test.YtcglbfpmcpammaaDoorZP18
section
namespace Go.Proofs.YtcglbfpmcpammaaDoor.Kit
set_option linter.unusedVariables false
set_option linter.unusedSimpArgs false
open Go Go.RowKit
section
variable {P : Program} {Q : Exit → Act → World → Prop}
variable {ops : Array Oper} {A : Act} {w : World} {o : Oper} {K : Value → World → Prop}
theorem step_made {v : Value} {w' : World} (hg : Region.wanted o (yielded ops A.tmps) = true) (h : (execOp A.eval o).run P w = .ok (.value v) w') (hK : K v w') : StepOk P ops o A w K := StepOk.of_run hg (by rw [h]; exact hK)
end
end Go.Proofs.YtcglbfpmcpammaaDoor.Kit
end
section
namespace Go.Proofs.YtcglbfpmcpammaaDoor.Kit
set_option linter.unusedVariables false
set_option linter.unusedSimpArgs false
open Go Go.RowKit
def fRow (T : TypeId) (n : Nat) (cs : List Value) : Fact := fun v w => ∃ b, v = .slice (some ⟨b, 0, none⟩) n n ∧ w.heap[b]? = some (.cells cs.toArray T (0, 0))
theorem Stays.fRow (T : TypeId) (n : Nat) (cs : List Value) : Stays (fRow T n cs) := fun v w w' h hb => by
  obtain ⟨b, h1, h2⟩ := h
  exact ⟨b, h1, (hb.block b (Array.getElem?_eq_some_iff.1 h2).1).trans h2⟩
section
variable {P : Program} {Q : Exit → Act → World → Prop}
variable {ops : Array Oper} {A : Act} {w : World} {o : Oper} {fa : Fact}
theorem st_new {v : Value} {ob : Obj} (hg : Region.wanted o (yielded ops A.tmps) = true) (h : (execOp A.eval o).run P w = .ok (.value v) (w.alloc ob)) (hf : (w.alloc ob).heap[w.heap.size]? = some ob → fa v (w.alloc ob)) : StepOk P ops o A w fun v w' => Below w.heap.size w w' ∧ fa v w' :=
  step_made hg h ⟨(Below.refl _ _).alloc (Nat.le_refl _) _, hf (heap_alloc_new w ob)⟩
end
end Go.Proofs.YtcglbfpmcpammaaDoor.Kit
end
section
namespace Go.Proofs.YtcglbfpmcpammaaDoor
set_option linter.unusedVariables false
set_option linter.unusedSimpArgs false
theorem cleanL_both (p q : List UInt8) : cleanL (cleanL p ++ cleanL q) = cleanL p ++ cleanL q := ((cl_clean p).app (cl_clean q)).clean
end Go.Proofs.YtcglbfpmcpammaaDoor
end
section
namespace Go.Proofs.YtcglbfpmcpammaaDoor
set_option linter.unusedVariables false
set_option linter.unusedSimpArgs false
open Go.RowKit Kit G Go.Proofs.YtcglbfpmcpammaaDoorW.PrintWords
attribute [local go_sem] Oper.semAt_some
attribute [local irreducible] wpList Calls wpQuiet
theorem pasteTakeG_calls (A : Option Addr) (c : Nat) (l : List UInt8) (hc : l.length ≤ c) (h5 : l.length ≤ 100000) (w : World) (hT : Tab w) (hr : Reads w A (l.map byV)) : Calls Tryd.prog 16 #[.slice A l.length c] w (TakeAnsG (takeV l) w) := by
  by_cases hp : l.take 6 = openM
  · obtain ⟨b0, o0, h⟩ := slice_at hr
    rcases h with rfl | rfl
    · exact absurd hp (by decide)
    · exact takeYesG_calls b0 o0 c l hc h5 w hT hr hp
  · exact takeNoG_calls A c l hc h5 w hT hr hp
end Go.Proofs.YtcglbfpmcpammaaDoor
end
section
namespace Go.Proofs.YtcglbfpmcpammaaDoor
set_option linter.unusedVariables false
set_option linter.unusedSimpArgs false
open Go.RowKit Kit G Go.Proofs.YtcglbfpmcpammaaDoorW.PrintWords Go.Proofs.YtcglbfpmcpammaaDoorW.PrintMore
theorem takeV_all (p : List UInt8) : takeV (sentP p) = (cleanL p, (sentP p).length, true) := by
  have := takeV_sent p []
  rw [List.append_nil] at this
  exact this
theorem ba_cat (a b : List UInt8) : (⟨a.toArray⟩ ++ ⟨b.toArray⟩ : ByteArray) = ⟨(a ++ b).toArray⟩ := by
  apply ByteArray.ext
  simp
theorem nums5 {n5 c5 N1 N2 : Nat} (hq : n5 = N1 + N2) (hc : N1 + N2 ≤ c5) (h2 : 0 < N2) : ((N1 : Int) + (N2 : Int) == (n5 : Int)) = true ∧ N1 ≤ n5 ∧ ¬ n5 < N1 ∧ ¬ c5 = N1 ∧ N1 ≤ c5 ∧ n5 ≤ c5 ∧ n5 - N1 = N2 ∧ N2 ≤ c5 - N1 := by
  refine ⟨beq_iff_eq.2 (by omega), ?_⟩
  omega
theorem step_append0 {ops : Array Oper} {A0 : Act} {w : World} {o : Oper} {b m c B : Nat} {pA : Option Addr} {s : List UInt8} {t : TypeId} {x y : Operand} (ht : Tryd.prog.underlying t = some (.slice 5)) (ho : o.op = .call { callee := .builtin .append, args := #[x, y], argTypes := #[t, t] }) (hgd : Region.wanted o (yielded ops A0.tmps) = true)
    (hx : A0.eval x = .slice (some ⟨b, 0, none⟩) 0 0) (hy : A0.eval y = .slice pA m c) (hm : s.length = m) (h0 : 0 < m) (h5 : m ≤ 100000) (hr : Reads w pA (s.map byV)) (hB : B ≤ w.heap.size) :
    StepOk Tryd.prog ops o A0 w fun v w' => Below w.heap.size w w' ∧ fOw B s v w' := by
  obtain ⟨i, hi, hz, hsz, hb⟩ := info_of (P := Tryd.prog) (T := 5) (by kernel_rfl)
  obtain ⟨b0, o0, hp, _⟩ := hr 0 (byV (s[0]'(by omega))) (by rw [List.getElem?_map, List.getElem?_eq_getElem (by omega)]; rfl)
  subst hp
  have hcells : ∀ j u, (s.map byV)[j]? = some u → w.cell? ((⟨b0, o0, none⟩ : Addr).add j) = some u := by
    intro j u hj
    obtain ⟨b, o, h, hc⟩ := hr j u hj
    cases h
    have hadd : (⟨b0, o0, none⟩ : Addr).add j = ⟨b0, o0 + j, none⟩ := by unfold Addr.add; split <;> simp_all
    rw [hadd]
    exact hc
  obtain ⟨v', w', hrun, hown, hgr⟩ := run_append_arg_grows (P := Tryd.prog) (w := w) t o.type 5 i (.int .u8 0) 1 1 ht hi hz hsz hb rfl (by decide) ⟨b, 0, none⟩ 0 0 [] rfl (fun j u hj => by simp at hj) ⟨b0, o0, none⟩ m c (s.map byV) (by rw [List.length_map]; omega) hcells (by omega) (by simp only [maxLen]; omega) (by omega)
  have hbel : Below w.heap.size w w' := (Below.refl _ w).grown hgr (Nat.le_refl _) (fun k hk => by cases hk)
  refine step_made (v := v') (w' := w') hgd ?_ ⟨hbel, ?_⟩
  · simp only [execOp, ho, resolve, invoke, builtin, Sem.run_bind, Sem.run_pure, Result.andThen_ok, List.map_toArray, List.map_cons, List.map_nil, hx, hy, hrun]
  · have h2 := own_lower hown hB
    rw [Nat.zero_add, List.nil_append] at h2
    unfold fOw
    rw [hm]
    exact h2
attribute [local irreducible] wpList Calls wpQuiet
set_option maxRecDepth 100000 in
set_option maxHeartbeats 16000000 in
theorem pasteJoins_calls (A : Option Addr) (n c : Nat) (l : List UInt8) (hl : l.length = n) (hc : n ≤ c) (A2 : Option Addr) (n2 c2 : Nat) (l2 : List UInt8) (hl2 : l2.length = n2) (hc2 : n2 ≤ c2) (w : World) (hT : Tab w) (hr : Reads w A (l.map byV)) (hr2 : Reads w A2 (l2.map byV))
    (h63 : n ≤ 140737488351232) (h632 : n2 ≤ 140737488351232) : Calls Tryd.prog 7 #[.slice A n c, .slice A2 n2 c2] w fun e w' => e = .returned (.bool true) ∧ Below w.heap.size w w' := by
  have HO := Mine.start w
  have HT := Lib.hid fun W (hW : Below w.heap.size w W) => Tab.below hT hW
  have hw0 : IntKind.i64.wrap ((n : Int) + (n2 : Int)) = (n : Int) + (n2 : Int) := by rw [IntKind.wrap_i64]; omega
  by_cases h200 : 200 < n + n2
  · have d1 : decide ((200 : Int) < (n : Int) + (n2 : Int)) = true := decide_eq_true (by omega)
    have d2 : 200 < n + n2 := h200
    have d3 : decide (200 < n + n2) = true := decide_eq_true h200
    clear hT hr hr2 hc hc2 hl hl2 h63 h632
    go_enter Tryd.func7, Tryd.ntmps7
    go_wp2_with (go_at_call 9; refine (awake17_calls _ (HT.out _ HO.below)).mono ?_; rintro eN wN ⟨rfl, hbN⟩; have HON := HO.call hbN; clear HO hbN; have HO := HON; clear HON)
    go_ret
    exact ⟨rfl, HO.below⟩
  have d1 : decide ((200 : Int) < (n : Int) + (n2 : Int)) = false := decide_eq_false (by omega)
  have d2 : ¬ 200 < n + n2 := h200
  have d3 : decide (200 < n + n2) = false := decide_eq_false h200
  obtain ⟨sP, hsP⟩ : ∃ sP, sentP l = sP := ⟨_, rfl⟩
  obtain ⟨sQ, hsQ⟩ : ∃ sQ, sentP l2 = sQ := ⟨_, rfl⟩
  obtain ⟨N1, hN1⟩ : ∃ N, sP.length = N := ⟨_, rfl⟩
  obtain ⟨N2, hN2⟩ : ∃ N, sQ.length = N := ⟨_, rfl⟩
  obtain ⟨C1, hC1⟩ : ∃ C, (cleanL l).length = C := ⟨_, rfl⟩
  obtain ⟨C2, hC2⟩ : ∃ C, (cleanL l2).length = C := ⟨_, rfl⟩
  have hle := cleanL_le l
  have hle2 := cleanL_le l2
  have hNl : N1 = C1 + 12 := by rw [← hN1, ← hsP, sent_len, hC1]
  have hNl2 : N2 = C2 + 12 := by rw [← hN2, ← hsQ, sent_len, hC2]
  have b1 : N1 ≤ 300 := by omega
  have b2 : N2 ≤ 300 := by omega
  have b3 : 0 < N1 := by omega
  have b4 : 0 < N2 := by omega
  have HSA := Lib.hid fun W (hW : Below w.heap.size w W) => pasteSend_calls false false false false true false false 0 0 0 A c l (by omega) (by omega) W (HT.out W hW) (hr.below hW)
  have HSB := Lib.hid fun W (hW : Below w.heap.size w W) => pasteSend_calls false false false false true false false 0 0 0 A2 c2 l2 (by omega) (by omega) W (HT.out W hW) (hr2.below hW)
  have HCA := Lib.hid fun W (hW : Below w.heap.size w W) => pasteClean_calls A c l (by omega) (by omega) W (hr.below hW)
  have HCB := Lib.hid fun W (hW : Below w.heap.size w W) => pasteClean_calls A2 c2 l2 (by omega) (by omega) W (hr2.below hW)
  rw [show sendL true l = sP from hsP, hl] at HSA
  rw [show sendL true l2 = sQ from hsQ, hl2] at HSB
  rw [hl] at HCA
  rw [hl2] at HCB
  have hne : ¬ sP ++ sQ = [] := fun h => by
    have := congrArg List.length h
    rw [List.length_append, hN1, hN2] at this
    simp at this
    omega
  have hta := fun (p : Option Addr) (cc : Nat) W (hcc : (sP ++ sQ).length ≤ cc) (hW : Below w.heap.size w W) (hrW : Reads W p ((sP ++ sQ).map byV)) => pasteTakeG_calls p cc (sP ++ sQ) hcc (by rw [List.length_append]; omega) W (HT.out W hW) hrW
  have hV : takeV (sP ++ sQ) = (cleanL l, N1, true) := by rw [← hsP, takeV_sent, hsP, hN1]
  rw [hV] at hta
  have htb := fun (p : Option Addr) (cc : Nat) W (hcc : sQ.length ≤ cc) (hW : Below w.heap.size w W) (hrW : Reads W p (sQ.map byV)) => pasteTakeG_calls p cc sQ hcc (by omega) W (HT.out W hW) hrW
  have hV2 : takeV sQ = (cleanL l2, N2, true) := by rw [← hsQ, takeV_all, hsQ, hN2]
  rw [hV2, hN2] at htb
  have hcc := fun (p : Option Addr) (cc : Nat) W (hcc : (cleanL l ++ cleanL l2).length ≤ cc) (hrW : Reads W p ((cleanL l ++ cleanL l2).map byV)) => pasteClean_calls p cc (cleanL l ++ cleanL l2) hcc (by rw [List.length_append]; omega) W hrW
  rw [cleanL_both] at hcc
  have HTA := Lib.hid hta
  have HTB := Lib.hid htb
  have HCC := Lib.hid hcc
  have HNE := Lib.hid hne
  have HN1 := Lib.hid hN1
  have HN2 := Lib.hid hN2
  have HC1 := Lib.hid hC1
  have HC2 := Lib.hid hC2
  have HB4 := Lib.hid b4
  have HDR : Hid ((sP ++ sQ).drop N1 = sQ) := Lib.hid (by rw [← hN1]; simp)
  have HLQ : Hid ((sQ.map byV).length = sQ.length) := Lib.hid (List.length_map _)
  have H63a : Hid ((sP.map byV).length + sQ.length ≤ maxLen) := Lib.hid (by unfold maxLen; simp; omega)
  have H64a : Hid (((sP.map byV).length + sQ.length) * 1 ≤ 140737488355328) := Lib.hid (by simp; omega)
  have HL1 : Hid (((cleanL l).map byV).length = (cleanL l).length) := Lib.hid (List.length_map _)
  have HL2 : Hid (((cleanL l2).map byV).length = (cleanL l2).length) := Lib.hid (List.length_map _)
  have H63b : Hid (([] : List Value).length + (cleanL l).length ≤ maxLen) := Lib.hid (by unfold maxLen; simp; omega)
  have H64b : Hid ((([] : List Value).length + (cleanL l).length) * 1 ≤ 140737488355328) := Lib.hid (by simp; omega)
  have H63c : Hid (([] ++ (cleanL l).map byV).length + (cleanL l2).length ≤ maxLen) := Lib.hid (by unfold maxLen; simp; omega)
  have H64c : Hid ((([] ++ (cleanL l).map byV).length + (cleanL l2).length) * 1 ≤ 140737488355328) := Lib.hid (by simp; omega)
  have HZ : Hid ((cleanL l).length + (cleanL l2).length ≤ 9223372036854775807) := Lib.hid (by omega)
  have hw1 : IntKind.i64.wrap ((N1 : Int) + (N2 : Int)) = (N1 : Int) + (N2 : Int) := IntWalk.i64_in _ (by omega)
  clear hT hr hr2 hc hc2 hl hl2 hta htb hcc hV hV2 hne hle hle2 hNl hNl2 b2 b4 h63 h632 hsP hsQ hN1 hN2 hC1 hC2
  go_enter Tryd.func7, Tryd.ntmps7
  go_wp2_with (first
    | (go_at_call 9; refine (awake17_calls _ (HT.out _ HO.below)).mono ?_; rintro eN wN ⟨rfl, hbN⟩; have HON := HO.call hbN; clear HO hbN; have HO := HON; clear HON)
    | (first
      | ((with_reducible refine gate ?_); (first
      | ((with_reducible refine gateAt (N := 6) rfl ?_); refine own_allocF (T := 23) HO rfl rfl Tryd.zeroValue23 rfl ?_; clear HO; intro gM wN hggM HO; (try simp only [Act.put, List.setIfInBounds_toArray, List.set_cons_zero, List.set_cons_succ]))
      | ((refine own_load (T := 23) HO rfl rfl rfl (by first | exact .head _) Tryd.isAgg23 Tryd.sizeOf23 (by repeat constructor) ?_); (try simp only [Act.put, List.setIfInBounds_toArray, List.set_cons_zero, List.set_cons_succ]))
      | ((refine own_store (T := 23) HO rfl rfl rfl rfl (by first | exact .here) Tryd.sizeOf23 (by repeat constructor) rfl ?_); clear HO; intro wN HO; (try simp only [Act.put, List.setIfInBounds_toArray, List.set_cons_zero, List.set_cons_succ]))))))
  refine region_law 8 [fRow 5 0 [], fIs (.agg #[.bool false, .bool false, .bool false, .bool false, .bool true, .bool false, .bool false, .int .i64 0, .int .i64 0, .int .i64 0]), fIs (.slice A n c), fRc sP, fOw wN.heap.size sP, fIs (.agg #[.bool false, .bool false, .bool false, .bool false, .bool true, .bool false, .bool false, .int .i64 0, .int .i64 0, .int .i64 0]), fIs (.slice A2 n2 c2), fRc sQ] HO (by kernel_rfl) (by kernel_rfl) (by decide) (by kernel_rfl)
    (stays_cons (Stays.fRow _ _ _) (stays_cons (Stays.fIs _) (stays_cons (Stays.fIs _) (stays_cons (Stays.fRc _) (stays_cons (Stays.fOw _ _) (stays_cons (Stays.fIs _) (stays_cons (Stays.fIs _) (stays_cons (Stays.fRc _) stays_nil)))))))) ?_
  intro vals A hA
  simp [fillL, dstOf, List.range, List.range.loop, Act.put] at hA
  subst hA
  refine ⟨⟨?_, ?_, ?_, ?_, ?_, ?_, ?_, ?_, trivial⟩, ?_⟩
  all_goals intro W hd hM hb0
  case refine_1 =>
    skip
    exact st_new (ob := .cells #[] 5 (0, 0)) rfl (by simp only [execOp]; first | (go_simp; done) | (go_simp; rfl)) (fun h => ⟨_, rfl, h⟩)
  case refine_2 =>
    skip
    exact st_load hM rfl rfl rfl (.head _) Tryd.isAgg23 Tryd.sizeOf23 (by repeat constructor) rfl
  case refine_3 =>
    skip
    exact st_val rfl (by simp only [execOp]; first | (go_simp; done) | (go_simp; rfl)) rfl
  case refine_4 =>
    have v1 : vals 1 = .agg #[.bool false, .bool false, .bool false, .bool false, .bool true, .bool false, .bool false, .int .i64 0, .int .i64 0, .int .i64 0] := hd 1 (by kernel_rfl)
    have v2 : vals 2 = .slice A n c := hd 2 (by kernel_rfl)
    rw [v1, v2]
    exact st_call rfl (by simp only [execOp]; first | (go_simp; done) | (go_simp; rfl)) (HSA.out W hM.below) (by rintro e w' ⟨v, R, rfl, hR, hMM⟩; exact ⟨_, rfl, hMM.below, fRc_of hR hMM⟩)
  case refine_5 =>
    skip
    obtain ⟨b9, e9, _⟩ : fRow 5 0 [] (vals 0) W := hd 0 (by kernel_rfl)
    obtain ⟨pA, cA, eA, hcA, hrA⟩ : fRc sP (vals 3) W := hd 3 (by kernel_rfl)
    rw [e9, eA]
    exact step_append0 Tryd.underlying24 rfl rfl rfl rfl rfl (by rw [HN1.out]; exact b3) (by rw [HN1.out]; omega) hrA hb0.size
  case refine_6 =>
    skip
    exact st_load hM rfl rfl rfl (.head _) Tryd.isAgg23 Tryd.sizeOf23 (by repeat constructor) rfl
  case refine_7 =>
    skip
    exact st_val rfl (by simp only [execOp]; first | (go_simp; done) | (go_simp; rfl)) rfl
  case refine_8 =>
    have v5 : vals 5 = .agg #[.bool false, .bool false, .bool false, .bool false, .bool true, .bool false, .bool false, .int .i64 0, .int .i64 0, .int .i64 0] := hd 5 (by kernel_rfl)
    have v6 : vals 6 = .slice A2 n2 c2 := hd 6 (by kernel_rfl)
    rw [v5, v6]
    exact st_call rfl (by simp only [execOp]; first | (go_simp; done) | (go_simp; rfl)) (HSB.out W hM.below) (by rintro e w' ⟨v, R, rfl, hR, hMM⟩; exact ⟨_, rfl, hMM.below, fRc_of hR hMM⟩)
  case refine_9 =>
    skip
    simp only [List.drop_succ_cons, List.drop_zero]
    have h4 : fOw _ sP (vals 4) W := hd 4 (by omega)
    obtain ⟨pQ, cQ, eQ, hcQ, hrQ⟩ : fRc sQ (vals 7) W := hd 7 (by omega)
    obtain ⟨R4, hR4, hM4⟩ := GRow.of_own h4 hb0
    obtain ⟨p4, n4, c4, e4⟩ := hR4.form
    rw [e4] at hR4
    rw [e4, eQ]
    have HO2 := (HO.join hM4).less (List.sublist_append_right _ _)
    clear HO
    have HO := HO2
    have HR4 := Lib.hid hR4
    have HRQ := Lib.hid hrQ
    clear HO2 hM hd hb0 h4 hM4 hR4 e4 eQ hcQ hrQ b1 b3
    go_wp2_with (first
      | ((with_reducible refine gateAt (N := 32) rfl ?_); refine own_append (T := 5) (t := 24) (z := .int .u8 0) (bytes := 1) (news := sQ.map byV) HO HR4.out (by first | exact Tl.app | exact Tl.cons Tl.app | exact Tl.cons (Tl.cons Tl.app) | exact Tl.here) rfl rfl (.tmp rfl) (.tmp rfl) Tryd.underlying24 (by kernel_rfl) (by rfl) HLQ.out HRQ.out (byV_one _) H63a.out H64a.out ?_; clear HO; intro p5 n5 c5 wN R5 hR5 HO; (try simp only [List.nil_append, List.cons_append] at HO); (try simp only [Act.put, List.setIfInBounds_toArray, List.set_cons_zero, List.set_cons_succ]))
      | (go_at_call 16; (have hR5' : GRow 5 (.slice p5 n5 c5) ((sP ++ sQ).map byV) R5 := by simpa using hR5); obtain ⟨hq, hrd, hqc, _⟩ := hR5'.reads (bs := []) HO; rw [List.length_map] at hq hqc; have hlk := HTA.out p5 c5 _ hqc HO.below hrd; rw [← hq] at hlk; refine hlk.mono ?_; clear hlk; obtain ⟨b5, o5, hba⟩ := slice_at hrd; (rcases hba with hba | hba; exact absurd hba HNE.out); subst hba; rw [List.length_append, HN1.out, HN2.out] at hq hqc; obtain ⟨i1, i2, i3, i4, i5, i6, i7, i8⟩ := nums5 hq hqc HB4.out; have I7 := Lib.hid i7; have I8 := Lib.hid i8; have HR5 := Lib.hid hR5'; clear hrd hq hqc hR5 hR5' HR4 HRQ i7 i8; unfold TakeAnsG; rintro eN wN ⟨v, RT, rfl, hRT, HM⟩; obtain ⟨pT, nT, cT, rfl⟩ := hRT.form; (have hnT : nT = C1 := by rw [hRT.len, List.length_map]; exact HC1.out); subst nT; have HRT := Lib.hid hRT; clear hRT; have HON := HO.join HM; clear HO HM; have HO := HON; clear HON)
      | (go_at_call 16; rw [I7.out]; have hrd := rdDrop (HR5.out.reads (bs := []) (HO.less (List.sublist_append_left _ _))).2.1 N1; rw [HDR.out] at hrd; refine (HTB.out _ _ _ I8.out HO.below hrd).mono ?_; clear hrd; unfold TakeAnsG; rintro eN wN ⟨v, RU, rfl, hRU, HM⟩; obtain ⟨pU, nU, cU, rfl⟩ := hRU.form; (have hnU : nU = C2 := by rw [hRU.len, List.length_map]; exact HC2.out); subst nU; have HRU := Lib.hid hRU; clear hRU; have HON := HO.join HM; clear HO HM; have HO := HON; clear HON)
      | (go_at_call 10; refine (HCA.out _ HO.below).mono ?_; rintro eN wN ⟨v, RCa, rfl, hRC, HM⟩; obtain ⟨pCa, cCa, rfl, hcC, hrC⟩ := fRc_of hRC HM; have HRCa := Lib.hid hrC; have HON := HO.call HM.below; clear hcC hrC hRC HM HO; have HO := HON; clear HON)
      | (go_at_call 10; refine (HCB.out _ HO.below).mono ?_; rintro eN wN ⟨v, RCb, rfl, hRC, HM⟩; obtain ⟨pCb, cCb, rfl, hcC, hrC⟩ := fRc_of hRC HM; have HRCb := Lib.hid hrC; have HON := HO.call HM.below; clear hcC hrC hRC HM HO; have HO := HON; clear HON)
      | (first
      | ((with_reducible refine gate ?_); (first
      | ((with_reducible refine gateAt (N := 47) rfl ?_); refine own_litF HO rfl (n := 0) (cs := []) (T := 5) (by first | (go_simp; done) | (go_simp; rfl)) ?_; clear HO; intro gE wN hggE HO; (try simp only [Act.put, List.setIfInBounds_toArray, List.set_cons_zero, List.set_cons_succ])); have HOP := HO.perm (List.perm_append_comm (l₁ := [_])); clear HO; have HO := HOP; clear HOP; (try simp only [List.cons_append, List.nil_append] at HO); (have hGE : GRow 5 (.slice (some ⟨gE, 0, none⟩) 0 0) [] [(gE, IsCells [] 5)] := GRow.lit (xs := []) (by simp)); have HGE := Lib.hid hGE; clear hGE
      | ((with_reducible refine gateAt (N := 50) rfl ?_); refine own_append (T := 5) (t := 24) (z := .int .u8 0) (bytes := 1) (news := (cleanL l).map byV) HO HGE.out (by first | exact Tl.app | exact Tl.cons Tl.app | exact Tl.cons (Tl.cons Tl.app) | exact Tl.here) rfl rfl (.tmp rfl) (.tmp rfl) Tryd.underlying24 (by kernel_rfl) (by rfl) HL1.out HRCa.out (byV_one _) H63b.out H64b.out ?_; clear HO; intro p6 n6 c6 wN R6 hR6 HO; (try simp only [List.nil_append, List.cons_append] at HO); (try simp only [Act.put, List.setIfInBounds_toArray, List.set_cons_zero, List.set_cons_succ]))
      | ((with_reducible refine gateAt (N := 53) rfl ?_); refine own_append (T := 5) (t := 24) (z := .int .u8 0) (bytes := 1) (news := (cleanL l2).map byV) HO hR6 (by first | exact Tl.app | exact Tl.cons Tl.app | exact Tl.cons (Tl.cons Tl.app) | exact Tl.here) rfl rfl (.tmp rfl) (.tmp rfl) Tryd.underlying24 (by kernel_rfl) (by rfl) HL2.out HRCb.out (byV_one _) H63c.out H64c.out ?_; clear HO; intro p7 n7 c7 wN R7 hR7 HO; (try simp only [List.nil_append, List.cons_append] at HO); (try simp only [Act.put, List.setIfInBounds_toArray, List.set_cons_zero, List.set_cons_succ]))))))
    have hR7' : GRow 5 (.slice p7 n7 c7) ((cleanL l ++ cleanL l2).map byV) R7 := by simpa using hR7
    obtain ⟨hq7, hrd7, hqc7, _⟩ := hR7'.reads (bs := []) (HO.less (List.sublist_append_right _ _))
    rw [List.length_map] at hq7 hqc7
    subst hq7
    have HR7r := Lib.hid hrd7
    have HQ7 := Lib.hid hqc7
    have HRTr := Lib.hid (HRT.out.reads (bs := []) (HO.less (((List.sublist_append_right R5 RT).trans (List.sublist_append_left _ RU)).trans (List.sublist_append_left _ _)))).2.1
    have HRUr := Lib.hid (HRU.out.reads (bs := []) (HO.less ((List.sublist_append_right (R5 ++ RT) RU).trans (List.sublist_append_left _ _)))).2.1
    clear hR7 hR7' hrd7 hqc7 HRT HRU HR5 HGE HRCa HRCb hR6
    refine region_law 33 [fIs (.bool true), fIs (.bool true), fIs (.bool true), fIs (.bool true), fIs (.bool true), fIs (.bool true), fIs (.bool true), fIs (.bool true), fIs (.int .i64 (N1 : Int)), fIs (.int .i64 (N2 : Int)), fIs (.int .i64 ((N1 : Int) + (N2 : Int))), fIs (.slice (some ⟨b5, o5, none⟩) n5 c5), fIs (.int .i64 (n5 : Int)), fIs (.bool true), fIs (.bool true), fIs (.bool true), fIs (.slice pT C1 cT), fIs (.string ⟨(cleanL l).toArray⟩), fIs (.slice pU C2 cU), fIs (.string ⟨(cleanL l2).toArray⟩), fIs (.string (⟨(cleanL l).toArray⟩ ++ ⟨(cleanL l2).toArray⟩)), fIs (.slice p7 (cleanL l ++ cleanL l2).length c7), fIs (.string ⟨(cleanL l ++ cleanL l2).toArray⟩), fIs (.bool true), fIs (.bool true), fIs (.bool true), fIs (.slice p7 (cleanL l ++ cleanL l2).length c7), fRc (cleanL l ++ cleanL l2), fIs (.string ⟨(cleanL l ++ cleanL l2).toArray⟩), fIs (.slice p7 (cleanL l ++ cleanL l2).length c7), fIs (.string ⟨(cleanL l ++ cleanL l2).toArray⟩), fIs (.bool true), fIs (.bool true)] HO (by kernel_rfl) (by kernel_rfl) (by decide) (by kernel_rfl)
      (stays_cons (Stays.fIs _) (stays_cons (Stays.fIs _) (stays_cons (Stays.fIs _) (stays_cons (Stays.fIs _) (stays_cons (Stays.fIs _) (stays_cons (Stays.fIs _) (stays_cons (Stays.fIs _) (stays_cons (Stays.fIs _) (stays_cons (Stays.fIs _) (stays_cons (Stays.fIs _) (stays_cons (Stays.fIs _) (stays_cons (Stays.fIs _) (stays_cons (Stays.fIs _) (stays_cons (Stays.fIs _) (stays_cons (Stays.fIs _) (stays_cons (Stays.fIs _) (stays_cons (Stays.fIs _) (stays_cons (Stays.fIs _) (stays_cons (Stays.fIs _) (stays_cons (Stays.fIs _) (stays_cons (Stays.fIs _) (stays_cons (Stays.fIs _) (stays_cons (Stays.fIs _) (stays_cons (Stays.fIs _) (stays_cons (Stays.fIs _) (stays_cons (Stays.fIs _) (stays_cons (Stays.fIs _) (stays_cons (Stays.fRc _) (stays_cons (Stays.fIs _) (stays_cons (Stays.fIs _) (stays_cons (Stays.fIs _) (stays_cons (Stays.fIs _) (stays_cons (Stays.fIs _) stays_nil))))))))))))))))))))))))))))))))) ?_
    intro vals A hA
    simp [fillL, dstOf, List.range, List.range.loop, Act.put] at hA
    subst hA
    refine ⟨⟨?_, ?_, ?_, ?_, ?_, ?_, ?_, ?_, ?_, ?_, ?_, ?_, ?_, ?_, ?_, ?_, ?_, ?_, ?_, ?_, ?_, ?_, ?_, ?_, ?_, ?_, ?_, ?_, ?_, ?_, ?_, ?_, ?_, trivial⟩, ?_⟩
    all_goals intro W hd hM hb0
    case refine_1 =>
      skip
      exact st_val rfl (by simp only [execOp]; first | (go_simp; done) | (go_simp; rfl)) rfl
    case refine_2 =>
      have v0 : vals 0 = .bool true := hd 0 (by kernel_rfl)
      rw [v0]
      exact st_val rfl (by simp only [execOp]; first | (go_simp; done) | (go_simp; rfl)) rfl
    case refine_3 =>
      have v1 : vals 1 = .bool true := hd 1 (by kernel_rfl)
      rw [v1]
      exact st_val rfl (by simp only [execOp]; first | (go_simp; done) | (go_simp; rfl)) rfl
    case refine_4 =>
      have v1 : vals 1 = .bool true := hd 1 (by kernel_rfl)
      have v2 : vals 2 = .bool true := hd 2 (by kernel_rfl)
      rw [v1, v2]
      exact st_val rfl (by simp only [execOp]; first | (go_simp; done) | (go_simp; rfl)) rfl
    case refine_5 =>
      have v3 : vals 3 = .bool true := hd 3 (by kernel_rfl)
      rw [v3]
      exact st_val rfl (by simp only [execOp]; first | (go_simp; done) | (go_simp; rfl)) rfl
    case refine_6 =>
      have v4 : vals 4 = .bool true := hd 4 (by kernel_rfl)
      rw [v4]
      exact st_val rfl (by simp only [execOp]; first | (go_simp; done) | (go_simp; rfl)) rfl
    case refine_7 =>
      have v4 : vals 4 = .bool true := hd 4 (by kernel_rfl)
      have v5 : vals 5 = .bool true := hd 5 (by kernel_rfl)
      rw [v4, v5]
      exact st_val rfl (by simp only [execOp]; first | (go_simp; done) | (go_simp; rfl)) rfl
    case refine_8 =>
      have v6 : vals 6 = .bool true := hd 6 (by kernel_rfl)
      rw [v6]
      exact st_val rfl (by simp only [execOp]; first | (go_simp; done) | (go_simp; rfl)) rfl
    case refine_9 =>
      have v7 : vals 7 = .bool true := hd 7 (by kernel_rfl)
      rw [v7]
      exact st_val rfl (by simp only [execOp]; first | (go_simp; done) | (go_simp; rfl)) rfl
    case refine_10 =>
      have v7 : vals 7 = .bool true := hd 7 (by kernel_rfl)
      rw [v7]
      exact st_val rfl (by simp only [execOp]; first | (go_simp; done) | (go_simp; rfl)) rfl
    case refine_11 =>
      have v7 : vals 7 = .bool true := hd 7 (by kernel_rfl)
      have v8 : vals 8 = .int .i64 (N1 : Int) := hd 8 (by kernel_rfl)
      have v9 : vals 9 = .int .i64 (N2 : Int) := hd 9 (by kernel_rfl)
      rw [v7, v8, v9]
      exact st_val rfl (by simp only [execOp]; first | (go_simp; done) | (go_simp; rfl)) rfl
    case refine_12 =>
      have v7 : vals 7 = .bool true := hd 7 (by kernel_rfl)
      rw [v7]
      exact st_val rfl (by simp only [execOp]; first | (go_simp; done) | (go_simp; rfl)) rfl
    case refine_13 =>
      have v7 : vals 7 = .bool true := hd 7 (by kernel_rfl)
      have v11 : vals 11 = .slice (some ⟨b5, o5, none⟩) n5 c5 := hd 11 (by kernel_rfl)
      rw [v7, v11]
      exact st_val rfl (by simp only [execOp]; first | (go_simp; done) | (go_simp; rfl)) rfl
    case refine_14 =>
      have v7 : vals 7 = .bool true := hd 7 (by kernel_rfl)
      have v10 : vals 10 = .int .i64 ((N1 : Int) + (N2 : Int)) := hd 10 (by kernel_rfl)
      have v12 : vals 12 = .int .i64 (n5 : Int) := hd 12 (by kernel_rfl)
      rw [v7, v10, v12]
      exact st_val rfl (by simp only [execOp]; first | (go_simp; done) | (go_simp; rfl)) rfl
    case refine_15 =>
      have v7 : vals 7 = .bool true := hd 7 (by kernel_rfl)
      have v13 : vals 13 = .bool true := hd 13 (by kernel_rfl)
      rw [v7, v13]
      exact st_val rfl (by simp only [execOp]; first | (go_simp; done) | (go_simp; rfl)) rfl
    case refine_16 =>
      have v14 : vals 14 = .bool true := hd 14 (by kernel_rfl)
      rw [v14]
      exact st_val rfl (by simp only [execOp]; first | (go_simp; done) | (go_simp; rfl)) rfl
    case refine_17 =>
      have v15 : vals 15 = .bool true := hd 15 (by kernel_rfl)
      rw [v15]
      exact st_val rfl (by simp only [execOp]; first | (go_simp; done) | (go_simp; rfl)) rfl
    case refine_18 =>
      have v15 : vals 15 = .bool true := hd 15 (by kernel_rfl)
      have v16 : vals 16 = .slice pT C1 cT := hd 16 (by kernel_rfl)
      rw [v15, v16]
      have hcv := run_str_of (P := Tryd.prog) (src := 24) (dst := 9) Tryd.underlying24 Tryd.underlying5 Tryd.underlying9 (c := cT) (HRTr.out.below hb0) HC1.out
      exact st_val rfl (by simp only [execOp]; first | (go_simp; done) | (go_simp; rfl)) rfl
    case refine_19 =>
      have v15 : vals 15 = .bool true := hd 15 (by kernel_rfl)
      rw [v15]
      exact st_val rfl (by simp only [execOp]; first | (go_simp; done) | (go_simp; rfl)) rfl
    case refine_20 =>
      have v15 : vals 15 = .bool true := hd 15 (by kernel_rfl)
      have v18 : vals 18 = .slice pU C2 cU := hd 18 (by kernel_rfl)
      rw [v15, v18]
      have hcv := run_str_of (P := Tryd.prog) (src := 24) (dst := 9) Tryd.underlying24 Tryd.underlying5 Tryd.underlying9 (c := cU) (HRUr.out.below hb0) HC2.out
      exact st_val rfl (by simp only [execOp]; first | (go_simp; done) | (go_simp; rfl)) rfl
    case refine_21 =>
      have v15 : vals 15 = .bool true := hd 15 (by kernel_rfl)
      have v17 : vals 17 = .string ⟨(cleanL l).toArray⟩ := hd 17 (by kernel_rfl)
      have v19 : vals 19 = .string ⟨(cleanL l2).toArray⟩ := hd 19 (by kernel_rfl)
      rw [v15, v17, v19]
      have hz := HZ.out
      exact st_val rfl (by simp only [execOp]; first | (go_simp; done) | (go_simp; rfl)) rfl
    case refine_22 =>
      have v15 : vals 15 = .bool true := hd 15 (by kernel_rfl)
      rw [v15]
      exact st_val rfl (by simp only [execOp]; first | (go_simp; done) | (go_simp; rfl)) rfl
    case refine_23 =>
      have v15 : vals 15 = .bool true := hd 15 (by kernel_rfl)
      have v21 : vals 21 = .slice p7 (cleanL l ++ cleanL l2).length c7 := hd 21 (by kernel_rfl)
      rw [v15, v21]
      have hcv := run_str_of (P := Tryd.prog) (src := 24) (dst := 9) Tryd.underlying24 Tryd.underlying5 Tryd.underlying9 (c := c7) (HR7r.out.below hb0) rfl
      rw [List.length_append] at hcv
      exact st_val rfl (by simp only [execOp]; first | (go_simp; done) | (go_simp; rfl)) rfl
    case refine_24 =>
      have v15 : vals 15 = .bool true := hd 15 (by kernel_rfl)
      have v20 : vals 20 = .string (⟨(cleanL l).toArray⟩ ++ ⟨(cleanL l2).toArray⟩) := hd 20 (by kernel_rfl)
      have v22 : vals 22 = .string ⟨(cleanL l ++ cleanL l2).toArray⟩ := hd 22 (by kernel_rfl)
      rw [v15, v20, v22]
      rw [ba_cat]
      have hse := beqD (cleanL l ++ cleanL l2) (cleanL l ++ cleanL l2)
      rw [decide_eq_true rfl] at hse
      exact st_val rfl (by simp only [execOp]; first | (go_simp; done) | (go_simp; rfl)) rfl
    case refine_25 =>
      have v15 : vals 15 = .bool true := hd 15 (by kernel_rfl)
      have v23 : vals 23 = .bool true := hd 23 (by kernel_rfl)
      rw [v15, v23]
      exact st_val rfl (by simp only [execOp]; first | (go_simp; done) | (go_simp; rfl)) rfl
    case refine_26 =>
      have v24 : vals 24 = .bool true := hd 24 (by kernel_rfl)
      rw [v24]
      exact st_val rfl (by simp only [execOp]; first | (go_simp; done) | (go_simp; rfl)) rfl
    case refine_27 =>
      have v25 : vals 25 = .bool true := hd 25 (by kernel_rfl)
      rw [v25]
      exact st_val rfl (by simp only [execOp]; first | (go_simp; done) | (go_simp; rfl)) rfl
    case refine_28 =>
      have v25 : vals 25 = .bool true := hd 25 (by kernel_rfl)
      have v26 : vals 26 = .slice p7 (cleanL l ++ cleanL l2).length c7 := hd 26 (by kernel_rfl)
      rw [v25, v26]
      have hq := HCC.out p7 c7 W HQ7.out (HR7r.out.below hb0)
      exact st_call rfl (by simp only [execOp]; first | (go_simp; done) | (go_simp; rfl)) hq (by rintro e w' ⟨v, R, rfl, hR, hMM⟩; exact ⟨_, rfl, hMM.below, fRc_of hR hMM⟩)
    case refine_29 =>
      have v25 : vals 25 = .bool true := hd 25 (by kernel_rfl)
      rw [v25]
      obtain ⟨pA, cA, eA, hcA, hrA⟩ : fRc (cleanL l ++ cleanL l2) (vals 27) W := hd 27 (by kernel_rfl)
      rw [eA]
      have hcv := run_str_of (P := Tryd.prog) (src := 24) (dst := 9) Tryd.underlying24 Tryd.underlying5 Tryd.underlying9 (c := cA) hrA rfl
      rw [List.length_append] at hcv
      exact st_val rfl (by simp only [execOp]; first | (go_simp; done) | (go_simp; rfl)) rfl
    case refine_30 =>
      have v25 : vals 25 = .bool true := hd 25 (by kernel_rfl)
      rw [v25]
      exact st_val rfl (by simp only [execOp]; first | (go_simp; done) | (go_simp; rfl)) rfl
    case refine_31 =>
      have v25 : vals 25 = .bool true := hd 25 (by kernel_rfl)
      have v29 : vals 29 = .slice p7 (cleanL l ++ cleanL l2).length c7 := hd 29 (by kernel_rfl)
      rw [v25, v29]
      have hcv := run_str_of (P := Tryd.prog) (src := 24) (dst := 9) Tryd.underlying24 Tryd.underlying5 Tryd.underlying9 (c := c7) (HR7r.out.below hb0) rfl
      rw [List.length_append] at hcv
      exact st_val rfl (by simp only [execOp]; first | (go_simp; done) | (go_simp; rfl)) rfl
    case refine_32 =>
      have v25 : vals 25 = .bool true := hd 25 (by kernel_rfl)
      have v28 : vals 28 = .string ⟨(cleanL l ++ cleanL l2).toArray⟩ := hd 28 (by kernel_rfl)
      have v30 : vals 30 = .string ⟨(cleanL l ++ cleanL l2).toArray⟩ := hd 30 (by kernel_rfl)
      rw [v25, v28, v30]
      have hse := beqD (cleanL l ++ cleanL l2) (cleanL l ++ cleanL l2)
      rw [decide_eq_true rfl] at hse
      exact st_val rfl (by simp only [execOp]; first | (go_simp; done) | (go_simp; rfl)) rfl
    case refine_33 =>
      have v25 : vals 25 = .bool true := hd 25 (by kernel_rfl)
      have v31 : vals 31 = .bool true := hd 31 (by kernel_rfl)
      rw [v25, v31]
      exact st_val rfl (by simp only [execOp]; first | (go_simp; done) | (go_simp; rfl)) rfl
    case refine_34 =>
      have v32 : vals 32 = .bool true := hd 32 (by omega)
      rw [v32]
      simp only [List.drop_succ_cons, List.drop_zero]
      have HO := hM
      clear hM hd hb0
      go_wp2
      go_ret
      exact ⟨rfl, HO.below⟩
end Go.Proofs.YtcglbfpmcpammaaDoor
end
