/- P: texts run together by shake.py: PaA KitJn PaB PaE Gwirea GgnumText GgstringsJoin Ggwirebetween Ggwirelisted GgstringsContainsRune. -/
import Derived.ArgAppend
import Derived.Below
import Derived.BigQuiet
import Derived.Deep.AppendLies
import Derived.Deep.CutBlock
import Derived.Deep.DeepCutAuto
import Derived.Deep.Draws
import Derived.Deep.LoopGhost
import Derived.Deep.OwnRows
import Derived.Deep.Quiet
import Derived.Deep.QuietTactic
import Derived.Deep.RegionHeld3
import Derived.KernelRfl
import Derived.Laws.AppendOwn
import Derived.Laws.AppendOwnNone
import Derived.Laws.BitsAllLaws
import Derived.Laws.BitsLemmas
import Derived.Laws.BytesArg
import Derived.Laws.Concat
import Derived.Laws.CopyRow
import Derived.Laws.IdiomCopy
import Derived.Laws.IdiomStrings
import Derived.Laws.MakeOwn
import Derived.Laws.OwnMore
import Derived.Laws.Rows
import Derived.Laws.Slices
import Derived.Laws.StructEq
import Derived.Laws.Tables
import Derived.Lib.AppendIntMem
import Derived.Lib.AppendStr
import Derived.Lib.AppendZeros
import Derived.Lib.ConvBytes
import Derived.Lib.Hide
import Derived.Lib.ItoaLen
import Derived.Lib.ItoaNum
import Derived.Lib.LaidTab
import Derived.Lib.OthersKept
import Derived.Lib.SliceRun
import Derived.Lib.TrimU
import Derived.LoopIn
import Derived.MapKept
import Derived.Maps.AppendAt
import Derived.Orders
import Derived.OrdersHeld
import Derived.OrdersIn
import Derived.OwnWalk
import Derived.RangeFuncCalls
import Derived.RangeFuncNested
import Derived.RangeFuncWrites
import Derived.RowKit
import Derived.RowKit3
import Derived.Shelf.Bytes.SlEqualAll
import Derived.Shelf.Bytes.SlSearch0
import Derived.Shelf.Bytes.SlSmallAll
import Derived.Shelf.Bytes.Small
import Derived.Shelf.LaysM
import Derived.Shelf.Slices.Empties2
import Derived.Shelf.Slices.Equal
import Derived.Shelf.Small.Strs
import Derived.Shelf.Small.Utf8
import Derived.Shelf.Strconv.Itoa0
import Derived.Shelf.Strconv.Itoa1
import Derived.Shelf.Strconv.Itoa2
import Derived.Shelf.Strconv.Itoa3
import Derived.Shelf.Strings.Builder1
import Derived.Shelf.Strings.Builder2
import Derived.Shelf.Strings.Builder2Cap
import Derived.Shelf.Strings.BuilderCap
import Derived.Shelf.Strings.BuilderF
import Derived.Shelf.Strings.BuilderK
import Derived.Shelf.Strings.OnBuilder
import Derived.Shelf.Strings.Runes
import Derived.Shelf.Strings.Search1
import Derived.Still
import Derived.Tactics
import Derived.TacticsIn
import Derived.Test.YtcglbfpmcpammaaDoorProg
import Derived.WalkKit
import Derived.WideLaws
import Derived.Test.YtcglbfpmcpammaaDoorZP1
import Derived.Test.YtcglbfpmcpammaaDoorZP2
import Derived.Test.YtcglbfpmcpammaaDoorZP3
section
namespace Go.Proofs.YtcglbfpmcpammaaDoor
set_option linter.unusedVariables false
set_option linter.unusedSimpArgs false
open Go.RowKit Kit G Go.Proofs.YtcglbfpmcpammaaDoorW.PrintWords Go.Proofs.YtcglbfpmcpammaaDoorW.PrintMore
attribute [local go_sem] Oper.semAt_some
theorem clean_calls (r : Nat) (w : World) : Calls Tryd.prog 33 #[.int .i64 (r : Int)] w fun e w' => e = .returned (.bool (cleanR r)) ∧ Below w.heap.size w w' := by
  refine (paste_clean.calls (r : Int) (cleanR r) w ?_).mono fun e w' ⟨h1, h2⟩ => ⟨h1, h2.below⟩
  unfold paste_clean.f cleanR
  by_cases h1 : r = 9
  · rw [if_pos (by omega), decide_eq_true h1]; rfl
  rw [if_neg (by omega), decide_eq_false h1]
  by_cases h2 : r = 10
  · rw [if_pos (by omega), decide_eq_true h2]; rfl
  rw [if_neg (by omega), decide_eq_false h2]
  by_cases h3 : r = 13
  · rw [if_pos (by omega), decide_eq_true h3]; rfl
  rw [if_neg (by omega), decide_eq_false h3]
  by_cases h4 : 32 ≤ r
  · rw [if_pos (by omega), decide_eq_true h4]
    by_cases h5 : r < 127
    · rw [if_pos (by omega), decide_eq_true h5]; rfl
    · rw [if_neg (by omega), decide_eq_false h5]
      have : decide ((r : Int) > 159) = decide (159 < r) := by
        by_cases h6 : 159 < r
        · rw [decide_eq_true h6, decide_eq_true (by omega)]
        · rw [decide_eq_false h6, decide_eq_false (by omega)]
      rw [this]; rfl
  · rw [if_neg (by omega), decide_eq_false h4]; rfl
def pointsA : Nat → Nat → List UInt8 → List (Nat × Nat × Bool)
  | 0, _, _ => []
  | f + 1, off, l => if l = [] then [] else (off, max (takeU l).2 1, decide (0 < (takeU l).2) && cleanR (takeU l).1) :: pointsA f (off + max (takeU l).2 1) (l.drop (max (takeU l).2 1))
def pointsO (off : Nat) (l : List UInt8) : List (Nat × Nat × Bool) := pointsA l.length off l
theorem pointsA_fuel : ∀ (f g off : Nat) (l : List UInt8), l.length ≤ f → l.length ≤ g → pointsA f off l = pointsA g off l
  | 0, 0, _, l, _, _ => rfl
  | 0, g + 1, off, l, h, _ => by
    have : l = [] := List.eq_nil_of_length_eq_zero (by omega)
    subst this; simp [pointsA]
  | f + 1, 0, off, l, _, h => by
    have : l = [] := List.eq_nil_of_length_eq_zero (by omega)
    subst this; simp [pointsA]
  | f + 1, g + 1, off, l, hf, hg => by
    unfold pointsA
    split
    · rfl
    · rename_i h
      have h0 : 0 < l.length := List.length_pos_iff.2 h
      rw [pointsA_fuel f g _ _ (by simp; omega) (by simp; omega)]
theorem pointsO_nil (off : Nat) : pointsO off [] = [] := rfl
theorem pointsO_cons {l : List UInt8} (off : Nat) (h : l ≠ []) : pointsO off l = (off, max (takeU l).2 1, decide (0 < (takeU l).2) && cleanR (takeU l).1) :: pointsO (off + max (takeU l).2 1) (l.drop (max (takeU l).2 1)) := by
  have h0 : 0 < l.length := List.length_pos_iff.2 h
  unfold pointsO
  obtain ⟨f, hf⟩ : ∃ f, l.length = f + 1 := ⟨l.length - 1, by omega⟩
  rw [hf]
  conv => lhs; unfold pointsA
  rw [if_neg h]
  congr 1
  exact pointsA_fuel _ _ _ _ (by simp; omega) (by simp)
def toL (L : List UInt8) (x : Nat × Nat × Bool) : List UInt8 × Bool := ((L.drop x.1).take x.2.1, x.2.2)
theorem pointsA_map (L : List UInt8) : ∀ (f off : Nat) (l : List UInt8), l.length ≤ f → L.drop off = l → (pointsO off l).map (toL L) = pointsL l
  | 0, off, l, h, _ => by
    have : l = [] := List.eq_nil_of_length_eq_zero (by omega)
    subst this; rfl
  | f + 1, off, l, h, hd => by
    by_cases hl : l = []
    · subst hl; rfl
    · have h0 : 0 < l.length := List.length_pos_iff.2 hl
      rw [pointsO_cons off hl, pointsL_cons hl, List.map_cons, pointsA_map L f _ _ (by simp; omega) (by rw [← hd, List.drop_drop])]
      unfold toL
      rw [hd]
theorem points_map (l : List UInt8) : (pointsO 0 l).map (toL l) = pointsL l := pointsA_map l _ 0 l (Nat.le_refl _) rfl
theorem take_max (l : List UInt8) (h : l ≠ []) : 0 < max (takeU l).2 1 ∧ max (takeU l).2 1 ≤ l.length := by
  have h0 : 0 < l.length := List.length_pos_iff.2 h
  have := (takeU_spec (show takeU l = ((takeU l).1, (takeU l).2) from rfl)).1
  omega
theorem points_in : ∀ (f off : Nat) (l : List UInt8), l.length ≤ f → ∀ x ∈ pointsO off l, off ≤ x.1 ∧ 0 < x.2.1 ∧ x.1 + x.2.1 ≤ off + l.length
  | 0, off, l, h => by
    have : l = [] := List.eq_nil_of_length_eq_zero (by omega)
    subst this; simp [pointsO_nil]
  | f + 1, off, l, h => by
    by_cases hl : l = []
    · subst hl; simp [pointsO_nil]
    · have h0 : 0 < l.length := List.length_pos_iff.2 hl
      have hm := take_max l hl
      rw [pointsO_cons off hl]
      intro x hx
      rcases List.mem_cons.1 hx with rfl | hx
      · refine ⟨Nat.le_refl _, hm.1, ?_⟩
        show off + max (takeU l).2 1 ≤ off + l.length
        omega
      · have := points_in f _ _ (by rw [List.length_drop]; omega) x hx
        rw [List.length_drop] at this
        omega
theorem Kit.Mine.setCellOne {W0 w : World} {bs bs' : Res} {g : Nat} {v v' : Value} {T : TypeId} (h : Mine W0 w bs) (hu : Upd bs g (IsCells [v] T) (IsCells [v'] T) bs') : Mine W0 (w.setCell ⟨g, 0, none⟩ v') bs' := by
  have hg := h.at hu.mem
  rw [setCell_eq_setRow w g 0 #[v] T (0, 0) v' hg]
  exact h.setRow hu
def rowLen (g : Nat) (w : World) : Nat := match w.cell? ⟨g, 0, none⟩ with | some (.slice _ n _) => n | _ => 0
theorem rowLen_of {g : Nat} {w : World} {p : Option Addr} {n c : Nat} (h : w.cell? ⟨g, 0, none⟩ = some (.slice p n c)) : rowLen g w = n := by
  unfold rowLen
  rw [h]
attribute [local irreducible] wpList Calls wpQuiet
theorem points_calls (A : Option Addr) (n c : Nat) (w : World) : Calls Tryd.prog 21 #[.slice A n c] w fun e w' => ∃ gD, e = .returned (.func (.func 31) #[] #[.pointer (some ⟨gD, 0, none⟩)]) ∧ Mine w w' [(gD, IsCells [.slice A n c] 24)] := by
  have HO := Mine.start w
  go_enter Tryd.func21, Tryd.ntmps21
  go_wp2_with (first
      | ((with_reducible refine gate ?_); (first
      | ((with_reducible refine gateAt (N := 1) rfl ?_); refine own_boxF (T := 24) HO rfl rfl rfl ?_; clear HO; intro gD wN hggD HO; (try simp only [Act.put, List.setIfInBounds_toArray, List.set_cons_zero, List.set_cons_succ])))))
  go_ret
  exact ⟨gD, rfl, HO⟩
theorem next_round {W0 wr W3 : World} {gD b0 o0 O c off k m C C2 : Nat} {L l : List UInt8} {pre : List (Nat × Nat × Bool)} {b : Bool} {Φ : List (Nat × Nat × Bool) → Res → Prop} {bs2 : Res} {p : Option Addr} {v : Value}
    (hxb : pointsO 0 L = pre ++ (off, k, b) :: pointsO (off + k) (l.drop k)) (hf : off + k ≤ L.length ∧ m = L.length - off ∧ C = c - off ∧ O = o0 + off ∧ 0 < k ∧ L.length ≤ c ∧ k ≤ m) (hdr : L.drop (off + k) = l.drop k) (hrl : rowLen gD wr = m)
    (hΦ : Φ (pre ++ [(off, k, b)]) bs2) (HO : Mine W0 W3 ((gD, IsCells [v] 24) :: bs2)) (hp : (p = some ⟨b0, O, none⟩ ∧ C = k) ∨ p = some ⟨b0, O + k, none⟩) (hC2 : C2 = C - k) :
    (∃ off, off ≤ L.length ∧ ∃ x, pointsO 0 L = x ++ pointsO off (List.drop off L) ∧ ∃ x_1, Φ x x_1 ∧ ∃ x, (off < L.length → x = some ⟨b0, o0 + off, none⟩) ∧
      Mine W0 (W3.setCell ⟨gD, 0, none⟩ (.slice p (m - k) C2)) ((gD, IsCells [.slice x (L.length - off) (c - off)] 24) :: x_1)) ∧
    rowLen gD (W3.setCell ⟨gD, 0, none⟩ (.slice p (m - k) C2)) < rowLen gD wr := by
  have HO4 : Mine W0 (W3.setCell ⟨gD, 0, none⟩ (.slice p (m - k) C2)) ((gD, IsCells [.slice p (m - k) C2] 24) :: bs2) := HO.setCellOne .here
  have e1 : L.length - (off + k) = m - k := by omega
  have e2 : c - (off + k) = C2 := by omega
  refine ⟨⟨off + k, hf.1, pre ++ [(off, k, b)], by rw [List.append_assoc, hdr]; exact hxb, bs2, hΦ, p, fun h => ?_, by rw [e1, e2]; exact HO4⟩, ?_⟩
  · rcases hp with ⟨_, h2⟩ | h2
    · omega
    · rw [h2, ← Nat.add_assoc, ← hf.2.2.2.1]
  · rw [rowLen_of (HO4.cell1 (.head _)), hrl]
    omega
set_option maxRecDepth 100000 in
set_option maxHeartbeats 8000000 in
theorem points_yields (W0 : World) (A : Option Addr) (b0 o0 c : Nat) (L : List UInt8) (hA : L = [] ∨ A = some ⟨b0, o0, none⟩) (hc : L.length ≤ c) (h63 : L.length ≤ 4611686018427387904) (hr : Reads W0 A (L.map byV)) (gD : Nat) :
    Iterates Tryd.prog 31 #[.pointer (some ⟨gD, 0, none⟩)] (fun x : Nat × Nat × Bool => #[.slice (some ⟨b0, o0 + x.1, none⟩) x.2.1 (c - x.1), .bool x.2.2]) (pointsO 0 L) W0 [(gD, IsCells [.slice A L.length c] 24)] := by
  intro n yl Φ Ψ W bs hM h0 hY
  have hfT : Fence.wide.fn 32 := trivial
  have hdd : ∀ k : Nat, (Fence.wide.depth.isSome = true → 1 ≤ k) := fun k h => by cases h
  refine callsIn_of_wp Tryd.func31 rfl trivial ?_ rfl
  simp only [Tryd.ntmps31, List.size_toArray, List.length_cons, List.length_nil, Nat.reduceAdd, Nat.reduceSub, Array.replicate_succ, Array.replicate_zero, List.push_toArray, List.append_toArray, List.nil_append, List.cons_append]
  have HO := hM.perm List.perm_append_comm
  clear hM
  gi_wp2
  gi_loopw [] (fun wr => ∃ off pre bs' B, off ≤ L.length ∧ pointsO 0 L = pre ++ pointsO off (L.drop off) ∧ Φ pre bs' ∧ (off < L.length → A = some ⟨b0, o0, none⟩ ∧ B = some ⟨b0, o0 + off, none⟩) ∧ Mine W0 wr ((gD, IsCells [.slice B (L.length - off) (c - off)] 24) :: bs')) (fun wr => rowLen gD wr)
  case atStart =>
    refine ⟨0, [], bs, A, Nat.zero_le _, rfl, h0, fun h => ?_, HO⟩
    rcases hA with rfl | rfl
    · exact absurd h (by simp)
    · exact ⟨rfl, rfl⟩
  case round =>
    obtain ⟨off, pre, bs', B, hoff, hxs, hΦ, hB, HO2⟩ := hrel
    clear HO
    have hP := HO2.cell1 (g := gD) (.head _)
    by_cases hlt : off < L.length
    · obtain ⟨rfl, rfl⟩ := hB hlt
      clear hB hA
      obtain ⟨l, hl⟩ : ∃ l, L.drop off = l := ⟨_, rfl⟩
      have hll : l.length = L.length - off := by rw [← hl, List.length_drop]
      have hne : l ≠ [] := fun e => by rw [e] at hll; simp at hll; omega
      have hrd := rdDrop (hr.below HO2.below) off
      rw [hl] at hrd hxs
      rw [pointsO_cons off hne] at hxs
      have hmx := take_max l hne
      obtain ⟨⟨r, t⟩, ht⟩ : ∃ t, takeU l = t := ⟨_, rfl⟩
      rw [ht] at hxs hmx
      obtain ⟨k, hk⟩ : ∃ k, max t 1 = k := ⟨_, rfl⟩
      simp only [hk] at hxs hmx
      have cT := utfTake_calls (some ⟨b0, o0 + off, none⟩) (c - off) l (by omega) (by omega) wr hrd
      rw [ht, hll] at cT
      obtain ⟨m, hm⟩ : ∃ m, L.length - off = m := ⟨_, rfl⟩
      obtain ⟨C, hC⟩ : ∃ C, c - off = C := ⟨_, rfl⟩
      obtain ⟨O, hO⟩ : ∃ O, o0 + off = O := ⟨_, rfl⟩
      rw [hm, hC, hO] at cT
      rw [hm, hC, hO] at hP HO2
      have hmx2 : Builtin.max2 (.int .i64 (t : Int)) (.int .i64 1) = pure (.int .i64 (k : Int)) := by
        rw [max2_int]
        congr 2
        rw [← hk]
        split <;> omega
      have d1 : decide ((0 : Int) < (m : Int)) = true := decide_eq_true (by omega)
      have d6 : 0 < m := by omega
      have d7 : decide (0 < m) = true := decide_eq_true d6
      have d2 : decide ((k : Int) ≤ (C : Int)) = true := decide_eq_true (by omega)
      have d3 : decide (k ≤ C) = true := decide_eq_true (by omega)
      have d4 : decide ((k : Int) ≤ (m : Int)) = true := decide_eq_true (by omega)
      have d5 : decide (k ≤ m) = true := decide_eq_true (by omega)
      have d8 : ¬ C < k := by omega
      have d9 : k ≤ m := by omega
      have d10 : ¬ m < k := by omega
      have d11 : k ≤ C := by omega
      have hmx3 : max (t : Int) 1 = (k : Int) := by omega
      have HHX := Lib.hid hxs
      have HF := Lib.hid (show (off + k ≤ L.length ∧ m = L.length - off ∧ C = c - off ∧ O = o0 + off ∧ 0 < k ∧ L.length ≤ c ∧ k ≤ m) ∧ L.drop (off + k) = l.drop k ∧ rowLen gD wr = m from ⟨⟨by omega, hm.symm, hC.symm, hO.symm, by omega, hc, by omega⟩, by rw [← hl, List.drop_drop], rowLen_of hP⟩)
      have HPHI := Lib.hid hΦ
      have HTK := Lib.hid cT
      have HO := HO2
      have hYr := fun (b : Bool) (hb : (decide (0 < t) && cleanR r) = b) (W : World) (h : Mine W0 W (bs' ++ [(gD, IsCells [Value.slice (some ⟨b0, O, none⟩) m C] 24)])) => hY (n - 1) pre (off, k, b) (pointsO (off + k) (l.drop k)) W bs' _ (by rw [HHX.out, hb]) hΦ h
      simp only [hO, hC] at hYr
      have HYR := Lib.hid hYr
      have HCL := Lib.hid (clean_calls r)
      clear hYr cT hΦ hxs hlt hoff hl hll hne hrd ht hmx hk hm hC hO HO2 hY h0 hc h63 hr
      gi_wp2_with ((try refine ⟨hdd _, ?_⟩); gi_at_call 32; refine (callsIn_wide.2 HTK.out).mono ?_; rintro e w2 ⟨rfl, hb2⟩; have HON := HO.call hb2; clear hP HO hb2; have HO := HON; clear HON; have hP := HO.cell1 (g := gD) (.head _))
      obtain ⟨b1, hb1⟩ : ∃ b1, decide (0 < t) = b1 := ⟨_, rfl⟩
      obtain ⟨b2, hb2⟩ : ∃ b2, cleanR r = b2 := ⟨_, rfl⟩
      have hd1 : decide ((0 : Int) < (t : Int)) = b1 := by
        rw [← hb1]
        by_cases h : 0 < t
        · rw [decide_eq_true h, decide_eq_true (by omega)]
        · rw [decide_eq_false h, decide_eq_false (by omega)]
      have ht0 : b1 = false → t = 0 := fun h => by rw [h] at hb1; simpa using hb1
      have ht1 : b1 = true → 0 < t := fun h => by rw [h] at hb1; simpa using hb1
      have HB1 := Lib.hid hb1
      have HB2 := Lib.hid hb2
      clear hb1 hb2
      cases b1
      · have ht := ht0 rfl
        clear ht0 ht1
        refine region_lawW rfl 10 [fIs (.func (.yield yl) #[] #[]), fIs (.slice (some ⟨b0, O, none⟩) m C), fIs (.int .i64 (k : Int)), fIs (.slice (some ⟨b0, O, none⟩) k C), fIs (.int .i64 (t : Int)), fIs (.bool false), fIs (.bool false), fIs (undef), fIs (undef), fIs (.bool false)] HO (by kernel_rfl) (by kernel_rfl) (by decide) (by kernel_rfl)
          (stays_cons (Stays.fIs _) (stays_cons (Stays.fIs _) (stays_cons (Stays.fIs _) (stays_cons (Stays.fIs _) (stays_cons (Stays.fIs _) (stays_cons (Stays.fIs _) (stays_cons (Stays.fIs _) (stays_cons (Stays.fIs _) (stays_cons (Stays.fIs _) (stays_cons (Stays.fIs _) stays_nil)))))))))) ?_
        intro vals A hA
        simp [fillL, dstOf, List.range, List.range.loop, Act.put] at hA
        subst hA
        refine ⟨⟨?_, ?_, ?_, ?_, ?_, ?_, ?_, ?_, ?_, ?_, trivial⟩, ?_⟩
        all_goals intro W hd hM hb0
        case refine_1 =>
          skip
          exact st_val rfl (by simp only [execOp]; first | (go_simp; done) | (go_simp; rfl)) rfl
        case refine_2 =>
          skip
          exact st_load1 hM rfl rfl rfl (.head _) Tryd.isAgg24 rfl rfl
        case refine_3 =>
          skip
          exact st_val rfl (by simp only [execOp]; first | (go_simp; done) | (go_simp; rfl)) rfl
        case refine_4 =>
          have v1 : vals 1 = .slice (some ⟨b0, O, none⟩) m C := hd 1 (by kernel_rfl)
          have v2 : vals 2 = .int .i64 (k : Int) := hd 2 (by kernel_rfl)
          rw [v1, v2]
          exact st_val rfl (by simp only [execOp]; first | (go_simp; done) | (go_simp; rfl)) rfl
        case refine_5 =>
          skip
          exact st_val rfl (by simp only [execOp]; first | (go_simp; done) | (go_simp; rfl)) rfl
        case refine_6 =>
          have v4 : vals 4 = .int .i64 (t : Int) := hd 4 (by kernel_rfl)
          rw [v4]
          exact st_val rfl (by simp only [execOp]; first | (go_simp; done) | (go_simp; rfl)) rfl
        case refine_7 =>
          have v5 : vals 5 = .bool false := hd 5 (by kernel_rfl)
          rw [v5]
          exact st_val rfl (by simp only [execOp]; first | (go_simp; done) | (go_simp; rfl)) rfl
        case refine_8 =>
          have v6 : vals 6 = .bool false := hd 6 (by kernel_rfl)
          rw [v6]
          exact st_pass rfl rfl
        case refine_9 =>
          have v6 : vals 6 = .bool false := hd 6 (by kernel_rfl)
          rw [v6]
          exact st_pass rfl rfl
        case refine_10 =>
          have v6 : vals 6 = .bool false := hd 6 (by kernel_rfl)
          rw [v6]
          exact st_val rfl (by simp only [execOp]; first | (go_simp; done) | (go_simp; rfl)) rfl
        case refine_11 =>
          have v0 : vals 0 = .func (.yield yl) #[] #[] := hd 0 (by omega)
          have v3 : vals 3 = .slice (some ⟨b0, O, none⟩) k C := hd 3 (by omega)
          have v9 : vals 9 = .bool false := hd 9 (by omega)
          rw [v0, v3, v9]
          simp only [List.drop_succ_cons, List.drop_zero]
          have HXB : Hid (pointsO 0 L = pre ++ (off, k, false) :: pointsO (off + k) (l.drop k)) := Lib.hid (by rw [HHX.out, HB1.out]; rfl)
          obtain ⟨fn, tmps, assign, body, hy, hR⟩ := HYR.out false (by rw [HB1.out]; rfl) W (hM.perm (List.perm_append_comm (l₁ := [_])))
          have HR := Lib.hid hR
          clear hR hM hd hb0 HO hP
          gi_wp2_with ((try refine ⟨hdd _, ?_⟩); refine HR.out.mono ?_; rintro e W3 (⟨rfl, bs2, hΦ2, HO3⟩ | ⟨rfl, bs2, hΨ2, HO3⟩) <;> have hP3 := HO3.cell1 (g := gD) (List.mem_append_right _ (.head _)) <;> have hF3 := HO3.free1 (g := gD) (List.mem_append_right _ (.head _)))
          all_goals first
            | exact next_round HXB.out HF.out.1 HF.out.2.1 HF.out.2.2 hΦ2 (HO3.perm List.perm_append_comm) (.inr rfl) rfl
            | exact next_round HXB.out HF.out.1 HF.out.2.1 HF.out.2.2 hΦ2 (HO3.perm List.perm_append_comm) (.inl ⟨rfl, by assumption⟩) (by omega)
            | (refine bodyPost_ret (results_none rfl _ _ _) rfl ?_
               exact ⟨⟨_, rfl⟩, .inr ⟨_, bs2, ⟨pointsO (off + k) (l.drop k), by rw [HXB.out, List.append_assoc]; rfl⟩, hΨ2, HO3.left⟩⟩)
      · have ht := ht1 rfl
        clear ht0 ht1
        refine region_lawW rfl 10 [fIs (.func (.yield yl) #[] #[]), fIs (.slice (some ⟨b0, O, none⟩) m C), fIs (.int .i64 (k : Int)), fIs (.slice (some ⟨b0, O, none⟩) k C), fIs (.int .i64 (t : Int)), fIs (.bool true), fIs (.bool true), fIs (.int .i64 (r : Int)), fIs (.bool b2), fIs (.bool b2)] HO (by kernel_rfl) (by kernel_rfl) (by decide) (by kernel_rfl)
          (stays_cons (Stays.fIs _) (stays_cons (Stays.fIs _) (stays_cons (Stays.fIs _) (stays_cons (Stays.fIs _) (stays_cons (Stays.fIs _) (stays_cons (Stays.fIs _) (stays_cons (Stays.fIs _) (stays_cons (Stays.fIs _) (stays_cons (Stays.fIs _) (stays_cons (Stays.fIs _) stays_nil)))))))))) ?_
        intro vals A hA
        simp [fillL, dstOf, List.range, List.range.loop, Act.put] at hA
        subst hA
        refine ⟨⟨?_, ?_, ?_, ?_, ?_, ?_, ?_, ?_, ?_, ?_, trivial⟩, ?_⟩
        all_goals intro W hd hM hb0
        case refine_1 =>
          skip
          exact st_val rfl (by simp only [execOp]; first | (go_simp; done) | (go_simp; rfl)) rfl
        case refine_2 =>
          skip
          exact st_load1 hM rfl rfl rfl (.head _) Tryd.isAgg24 rfl rfl
        case refine_3 =>
          skip
          exact st_val rfl (by simp only [execOp]; first | (go_simp; done) | (go_simp; rfl)) rfl
        case refine_4 =>
          have v1 : vals 1 = .slice (some ⟨b0, O, none⟩) m C := hd 1 (by kernel_rfl)
          have v2 : vals 2 = .int .i64 (k : Int) := hd 2 (by kernel_rfl)
          rw [v1, v2]
          exact st_val rfl (by simp only [execOp]; first | (go_simp; done) | (go_simp; rfl)) rfl
        case refine_5 =>
          skip
          exact st_val rfl (by simp only [execOp]; first | (go_simp; done) | (go_simp; rfl)) rfl
        case refine_6 =>
          have v4 : vals 4 = .int .i64 (t : Int) := hd 4 (by kernel_rfl)
          rw [v4]
          exact st_val rfl (by simp only [execOp]; first | (go_simp; done) | (go_simp; rfl)) rfl
        case refine_7 =>
          have v5 : vals 5 = .bool true := hd 5 (by kernel_rfl)
          rw [v5]
          exact st_val rfl (by simp only [execOp]; first | (go_simp; done) | (go_simp; rfl)) rfl
        case refine_8 =>
          have v6 : vals 6 = .bool true := hd 6 (by kernel_rfl)
          rw [v6]
          exact st_val rfl (by simp only [execOp]; first | (go_simp; done) | (go_simp; rfl)) rfl
        case refine_9 =>
          have v6 : vals 6 = .bool true := hd 6 (by kernel_rfl)
          have v7 : vals 7 = .int .i64 (r : Int) := hd 7 (by kernel_rfl)
          rw [v6, v7]
          have hc2 := HCL.out W
          rw [HB2.out] at hc2
          exact st_call rfl (by simp only [execOp]; first | (go_simp; done) | (go_simp; rfl)) hc2 (by rintro e w' ⟨rfl, hb⟩; exact ⟨_, rfl, hb, rfl⟩)
        case refine_10 =>
          have v6 : vals 6 = .bool true := hd 6 (by kernel_rfl)
          have v8 : vals 8 = .bool b2 := hd 8 (by kernel_rfl)
          rw [v6, v8]
          exact st_val rfl (by simp only [execOp]; first | (go_simp; done) | (go_simp; rfl)) rfl
        case refine_11 =>
          have v0 : vals 0 = .func (.yield yl) #[] #[] := hd 0 (by omega)
          have v3 : vals 3 = .slice (some ⟨b0, O, none⟩) k C := hd 3 (by omega)
          have v9 : vals 9 = .bool b2 := hd 9 (by omega)
          rw [v0, v3, v9]
          simp only [List.drop_succ_cons, List.drop_zero]
          have HXB : Hid (pointsO 0 L = pre ++ (off, k, b2) :: pointsO (off + k) (l.drop k)) := Lib.hid (by rw [HHX.out, HB1.out, HB2.out]; rfl)
          obtain ⟨fn, tmps, assign, body, hy, hR⟩ := HYR.out b2 (by rw [HB1.out, HB2.out]; rfl) W (hM.perm (List.perm_append_comm (l₁ := [_])))
          have HR := Lib.hid hR
          clear hR hM hd hb0 HO hP
          gi_wp2_with ((try refine ⟨hdd _, ?_⟩); refine HR.out.mono ?_; rintro e W3 (⟨rfl, bs2, hΦ2, HO3⟩ | ⟨rfl, bs2, hΨ2, HO3⟩) <;> have hP3 := HO3.cell1 (g := gD) (List.mem_append_right _ (.head _)) <;> have hF3 := HO3.free1 (g := gD) (List.mem_append_right _ (.head _)))
          all_goals first
            | exact next_round HXB.out HF.out.1 HF.out.2.1 HF.out.2.2 hΦ2 (HO3.perm List.perm_append_comm) (.inr rfl) rfl
            | exact next_round HXB.out HF.out.1 HF.out.2.1 HF.out.2.2 hΦ2 (HO3.perm List.perm_append_comm) (.inl ⟨rfl, by assumption⟩) (by omega)
            | (refine bodyPost_ret (results_none rfl _ _ _) rfl ?_
               exact ⟨⟨_, rfl⟩, .inr ⟨_, bs2, ⟨pointsO (off + k) (l.drop k), by rw [HXB.out, List.append_assoc]; rfl⟩, hΨ2, HO3.left⟩⟩)
    · have hoe : off = L.length := by omega
      subst hoe
      have hz : L.length - L.length = 0 := Nat.sub_self _
      rw [hz] at hP HO2
      have HX := Lib.hid hxs
      have HPHI := Lib.hid hΦ
      have HO := HO2
      clear hxs hΦ HO2 hY h0 hc h63 hr hA hB hlt hoff hz
      gi_wp2
      go_end0
      refine ⟨⟨_, rfl⟩, .inl ⟨bs', ?_, HO.less (.cons _ (List.Sublist.refl _))⟩⟩
      have := HX.out
      rw [List.drop_length, pointsO_nil, List.append_nil] at this
      rw [this]
      exact HPHI.out
end Go.Proofs.YtcglbfpmcpammaaDoor
end
section
namespace Go.Proofs.YtcglbfpmcpammaaDoor
set_option linter.unusedVariables false
set_option linter.unusedSimpArgs false
open Go.RowKit Kit
theorem Kit.Mine.join {W0 w w' : World} {bs ex : Res} (h : Mine W0 w bs) (h2 : Mine w w' ex) : Mine W0 w' (bs ++ ex) := by
  have h1 := h.call h2.below
  refine ⟨h1.below, ?_, fun p hp => ?_⟩
  · rw [List.map_append, List.nodup_append]
    refine ⟨h.nodup, h2.nodup, ?_⟩
    intro x hx y hy e
    obtain ⟨q, hq, rfl⟩ := List.mem_map.1 hx
    obtain ⟨r, hr, rfl⟩ := List.mem_map.1 hy
    have h3 := h.lt hq
    have h4 := (h2.held r hr).1
    omega
  · rcases List.mem_append.1 hp with hp | hp
    · exact h1.held p hp
    · obtain ⟨h3, h4⟩ := h2.held p hp
      exact ⟨Nat.le_trans h.below.size h3, h4⟩
theorem wideRegion {P : Program} {Q : Exit → Act → World → Prop} {a : Act} {w : World} {n id : Nat} {l : List Oper} (h : wpList P l.toArray Q l a w) : (Code.region id l.toArray false).wpIn Fence.wide n P Q a w := wpIn_wide.2 (wp_region_lit h)
end Go.Proofs.YtcglbfpmcpammaaDoor
end
section
namespace Go.Proofs.YtcglbfpmcpammaaDoor
set_option linter.unusedVariables false
set_option linter.unusedSimpArgs false
open Go.RowKit Kit G Go.Proofs.YtcglbfpmcpammaaDoorW.PrintWords
attribute [local go_sem] Oper.semAt_some
attribute [local irreducible] wpList Calls wpQuiet
set_option maxRecDepth 100000 in
set_option maxHeartbeats 8000000 in
theorem pasteClean_calls (A : Option Addr) (c : Nat) (l : List UInt8) (hc : l.length ≤ c) (h5 : l.length ≤ 100000) (w : World) (hr : Reads w A (l.map byV)) : Calls Tryd.prog 10 #[.slice A l.length c] w fun e w' => ∃ v R, e = .returned v ∧ GRow 5 v ((cleanL l).map byV) R ∧ Mine w w' R := by
  refine (callsIn_wide (n := 5)).1 ?_
  have HO := Mine.start w
  obtain ⟨b0, o0, hA⟩ := slice_at hr
  have HY := Lib.hid (points_yields w A b0 o0 c l hA hc (by omega) hr)
  have hpm := points_map l
  have hin := points_in _ 0 l (Nat.le_refl _)
  have hcl := cleanOf_le _ l (Nat.le_refl _)
  have hrx : ∀ (W : World), Below w.heap.size w W → ∀ off k, Reads W (some ⟨b0, o0 + off, none⟩) (((l.drop off).take k).map byV) := fun W hW off k => by
    rcases hA with rfl | rfl
    · simpa using Reads.nil _ _
    · exact rdTake (rdDrop (hr.below hW) off) k
  have HPM := Lib.hid hpm
  have HIN := Lib.hid hin
  have HCL := Lib.hid hcl
  have HRX := Lib.hid hrx
  have H5 := Lib.hid h5
  clear hA hr hc h5 hpm hin hcl hrx
  refine callsIn_of_wp_marks Tryd.func10 rfl trivial ?_ rfl
  simp only [Tryd.ntmps10, List.size_toArray, List.length_cons, List.length_nil, Nat.reduceAdd, Nat.reduceSub, Array.replicate_succ, Array.replicate_zero, List.push_toArray, List.append_toArray, List.nil_append, List.cons_append]
  refine wpIn_seq ?_
  refine wideRegion ?_
  go_wp2
  refine wpIn_seq ?_
  refine wideRegion ?_
  go_wp2_with (first
      | ((with_reducible refine gate ?_); (first
      | ((with_reducible refine gateAt (N := 3) rfl ?_); refine own_allocF (T := 24) HO rfl rfl Tryd.zeroValue24 rfl ?_; clear HO; intro gL wN hggL HO; (try simp only [Act.put, List.setIfInBounds_toArray, List.set_cons_zero, List.set_cons_succ])))))
  refine wpIn_seq ?_
  refine wpIn_seq ?_
  refine wideRegion ?_
  go_wp2_with (go_at_call 21; refine (points_calls A l.length c _).mono ?_; rintro eN wN ⟨gD, rfl, HM⟩; have HON := HO.join HM; clear HO HM; have HO := HON; clear HON)
  refine wpIn_block ?_
  have HO2 : Mine w wN ([(gL, IsCells [.slice none 0 0] 24)] ++ [(gD, IsCells [.slice A l.length c] 24)]) := by
    first | exact HO | exact HO.perm List.perm_append_comm
  clear HO
  refine wpIn_range_mine (gf := 31) (lb := #[.pointer (some ⟨gD, 0, none⟩)]) rfl (enters_of Tryd.func31 (by kernel_rfl) rfl) (HY.out gD) (fun _ => rfl)
    (fun pre b2 => ∃ p n c2 R, GRow 5 (.slice p n c2) ((cleanOf (pre.map (toL l))).map byV) R ∧ b2 = (gL, IsCells [.slice p n c2] 24) :: R) (fun c pre b2 => False) HO2 ⟨none, 0, 0, [], GRow.nil _, rfl⟩
    (fun x => { tmps := #[.slice A l.length c, undef, .slice none 0 0, .pointer (some ⟨gL, 0, none⟩), .slice (some ⟨b0, o0 + x.1, none⟩) x.2.1 (c - x.1), .bool x.2.2, .slice A l.length c, .func (.func 31) #[] #[.pointer (some ⟨gD, 0, none⟩)], .slice (some ⟨b0, o0 + x.1, none⟩) x.2.1 (c - x.1), .bool x.2.2, undef, undef, undef, undef, undef], defers := [] }) ?assign ?body ?done ?stop
  case assign =>
    intro m l2 x W3 K hK
    gi_wp2
    exact hK
  case body =>
    rintro m l2 pre x post W2 bs2 fr hxs ⟨p, n, c2, R, hR, rfl⟩ HM
    obtain ⟨off, k, ok⟩ := x
    have hx := HIN.out (off, k, ok) (by rw [hxs]; simp)
    simp only [Nat.zero_add] at hx
    have hpp := HPM.out
    rw [hxs, List.map_append] at hpp
    have hle := (HCL.out _ _ hpp.symm).1
    obtain ⟨nw, hnw⟩ : ∃ nw, (l.drop off).take k = nw := ⟨_, rfl⟩
    have hnl : nw.length = k := by rw [← hnw]; simp; omega
    have hst : cleanOf ((pre ++ [(off, k, ok)]).map (toL l)) = cleanOf (pre.map (toL l)) ++ if ok then nw else [] := by
      rw [List.map_append, cleanOf_append, List.map_cons, List.map_nil]
      show _ ++ cleanOf [((l.drop off).take k, ok)] = _
      rw [cleanOf_one, hnw]
    have HRD : Hid (∀ W, Below w.heap.size w W → Reads W (some ⟨b0, o0 + off, none⟩) (nw.map byV)) := Lib.hid fun W hW => by rw [← hnw]; exact HRX.out W hW off k
    have HLEN : Hid ((nw.map byV).length = k) := Lib.hid (by rw [List.length_map, hnl])
    have HONE : Hid (∀ u ∈ nw.map byV, u.oneCell' = true) := Lib.hid (byV_one nw)
    have H63 : Hid (((cleanOf (pre.map (toL l))).map byV).length + k ≤ maxLen) := Lib.hid (by rw [List.length_map]; have := H5.out; unfold maxLen; omega)
    have H64 : Hid ((((cleanOf (pre.map (toL l))).map byV).length + k) * 1 ≤ 140737488355328) := Lib.hid (by rw [List.length_map]; have := H5.out; omega)
    have HST := Lib.hid hst
    have HR := Lib.hid hR
    have HO : Mine w W2 ((gL, IsCells [.slice p n c2] 24) :: (fr ++ R)) := HM.perm (.cons _ List.perm_append_comm)
    clear HM hx hpp hle hnw hnl hst hR hxs HO2
    refine wpIn_block ?_
    refine wpIn_seq ?_
    refine inRegion (fun ⟨_, _, h⟩ => h) rfl ?_
    go_wp2
    cases ok
    · refine wpIn_cond_false rfl ?_
      refine wpIn_skip ?_
      refine ⟨(gL, IsCells [.slice p n c2] 24) :: R, ⟨p, n, c2, R, ?_, rfl⟩, HO.perm (.cons _ List.perm_append_comm)⟩
      rw [HST.out]
      simpa using HR.out
    · refine wpIn_cond_true rfl ?_
      refine inRegion (fun ⟨_, _, h⟩ => h) rfl ?_
      go_wp2_with (first
      | ((with_reducible refine gate ?_); (first
      | ((with_reducible refine gateAt (N := 13) rfl ?_); refine own_append (T := 5) (t := 24) (z := .int .u8 0) (bytes := 1) (news := nw.map byV) HO HR.out (by repeat (first | exact Tl.here | exact Tl.app | apply Tl.cons)) rfl rfl (.tmp rfl) (.tmp rfl) Tryd.underlying24 (by kernel_rfl) (by rfl) HLEN.out (HRD.out _ HO.below) HONE.out H63.out H64.out ?_; clear HO; intro p2 n2 c3 wN R2 hR2 HO; (simp only [List.nil_append, List.cons_append] at HO); (try simp only [Act.put, List.setIfInBounds_toArray, List.set_cons_zero, List.set_cons_succ]))
      | ((refine own_load1 (T := 24) HO rfl rfl rfl (by first | exact .head _) Tryd.isAgg24 rfl ?_); (try simp only [Act.put, List.setIfInBounds_toArray, List.set_cons_zero, List.set_cons_succ]))
      | ((refine own_store1 (T := 24) HO rfl rfl rfl (by first | exact .const | exact .tmp rfl | exact .func) (by rfl) (by first | exact .here) Tryd.sizeOf24 (by repeat constructor) (by rfl) ?_); clear HO; intro wN HO; (try simp only [Act.put, List.setIfInBounds_toArray, List.set_cons_zero, List.set_cons_succ])))))
      refine ⟨(gL, IsCells [.slice p2 n2 c3] 24) :: R2, ⟨p2, n2, c3, R2, ?_, rfl⟩, HO.perm (.cons _ List.perm_append_comm)⟩
      rw [HST.out, if_pos (by trivial), List.map_append]
      exact hR2
  case done =>
    rintro D W2 bs2 ⟨p, n, c2, R, hR, rfl⟩ HM
    have HR := Lib.hid hR
    have HO : Mine w W2 ((gL, IsCells [.slice p n c2] 24) :: (D, IsDef) :: R) := HM.perm (.cons _ List.perm_append_comm)
    clear HM HO2 hR
    refine wpIn_seq ?_
    refine wideRegion ?_
    go_wp2_with (first
      | ((with_reducible refine gate ?_); (first
      | ((refine own_load1 (T := 24) HO rfl rfl rfl (by first | exact .head _) Tryd.isAgg24 rfl ?_); (try simp only [Act.put, List.setIfInBounds_toArray, List.set_cons_zero, List.set_cons_succ]))
      | ((refine own_store1 (T := 24) HO rfl rfl rfl (by first | exact .const | exact .tmp rfl | exact .func) (by rfl) (by first | exact .here) Tryd.sizeOf24 (by repeat constructor) (by rfl) ?_); clear HO; intro wN HO; (try simp only [Act.put, List.setIfInBounds_toArray, List.set_cons_zero, List.set_cons_succ])))))
    refine wpIn_ret ?_
    refine leaves_mark (bs := R) ((HO.less (List.sublist_cons_self _ _)).perm (List.perm_append_comm (l₁ := [(D, IsDef)]))) fun W3 HM3 => ?_
    refine ⟨_, results_tmp rfl _ _ _, .slice p n c2, R, rfl, ?_, HM3⟩
    have := HR.out
    rw [HPM.out] at this
    exact this
  case stop =>
    rintro D cc pre W2 bs2 hpre h HM
    exact h.elim
end Go.Proofs.YtcglbfpmcpammaaDoor
end
section
namespace Go.Proofs.YtcglbfpmcpammaaDoor
set_option linter.unusedVariables false
set_option linter.unusedSimpArgs false
open Go.RowKit Kit G Go.Proofs.YtcglbfpmcpammaaDoorW.PrintWords
theorem growRow {w : World} {n cap : Nat} {cur : Array Value} {T : TypeId} (hc : cap ≤ maxLen) (hs : cur.size = cap) : GRow T (.slice (some ⟨w.heap.size, 0, none⟩) 0 cap) [] [(w.heap.size, IsCells cur.toList T)] :=
  .inr ⟨w.heap.size, cap, cur.toList, rfl, Nat.zero_le _, hc, by simpa using hs, rfl, rfl⟩
theorem fRc_of {W0 w : World} {R : Res} {l : List UInt8} {v : Value} (h : GRow 5 v (l.map byV) R) (HO : Mine W0 w R) : fRc l v w := by
  obtain ⟨p, c, h1, h2, h3, _⟩ := h.slice (bs := []) (by simpa using HO)
  rw [List.length_map] at h1 h3
  exact ⟨p, c, h1, h3, h2⟩
attribute [local irreducible] wpList Calls wpQuiet
set_option maxRecDepth 100000 in
set_option maxHeartbeats 4000000 in
theorem cloneB_calls (A : Option Addr) (c : Nat) (l : List UInt8) (h5 : l.length ≤ 1000000) (w : World) (hr : Reads w A (l.map byV)) : Calls Tryd.prog 29 #[.slice A l.length c] w fun e w' => ∃ v R, e = .returned v ∧ GRow 5 v (l.map byV) R ∧ Mine w w' R := by
  have HO := Mine.start w
  have q24 : ∀ (w : World) (a : Option Addr) (n c n' c' : Nat), (binOp .eql 24 (.slice a n c) (.slice none n' c')).run Tryd.prog w = .ok (.bool a.isNone) w := fun w a n c n' c' => Lib.run_eql_slice_nil w _ _ a n c n' c' Tryd.underlying24
  cases A with
  | none =>
    have hl := Reads.none hr
    subst hl
    clear hr h5
    go_enter Tryd.func29, Tryd.ntmps29
    go_wp2
    go_ret
    first | exact ⟨_, [], rfl, GRow.nil _, HO⟩ | exact ⟨[], GRow.nil _, HO⟩
  | some ad =>
    have HR := Lib.hid hr
    have HLN : Hid ((l.map byV).length = l.length) := Lib.hid (by rw [List.length_map])
    have H63 : Hid (([] : List Value).length + l.length ≤ maxLen) := Lib.hid (by unfold maxLen; simp; omega)
    have H64 : Hid ((([] : List Value).length + l.length) * 1 ≤ 140737488355328) := Lib.hid (by simp; omega)
    clear hr h5
    go_enter Tryd.func29, Tryd.ntmps29
    go_wp2_with (first
      | ((with_reducible refine gate ?_); (first
      | ((with_reducible refine gateAt (N := 5) rfl ?_); refine own_litF HO rfl (n := 0) (cs := []) (T := 5) (by first | (go_simp; done) | (go_simp; rfl)) ?_; clear HO; intro gE wN hggE HO; (try simp only [Act.put, List.setIfInBounds_toArray, List.set_cons_zero, List.set_cons_succ])); (have hGR : GRow 5 (.slice (some ⟨gE, 0, none⟩) 0 0) [] [(gE, IsCells [] 5)] := GRow.lit (xs := []) (by simp)); have HGR := Lib.hid hGR; clear hGR
      | ((with_reducible refine gateAt (N := 7) rfl ?_); refine own_append (T := 5) (t := 24) (z := .int .u8 0) (bytes := 1) (news := l.map byV) HO HGR.out (by repeat (first | exact Tl.here | exact Tl.app | apply Tl.cons)) rfl rfl (.tmp rfl) (.tmp rfl) Tryd.underlying24 (by kernel_rfl) (by rfl) HLN.out (HR.out.below HO.below) (byV_one _) H63.out H64.out ?_; clear HO; intro p2 n2 c2 wN R2 hR2 HO; (simp only [List.nil_append, List.cons_append] at HO); (try simp only [Act.put, List.setIfInBounds_toArray, List.set_cons_zero, List.set_cons_succ])))))
    go_ret
    first | exact ⟨_, R2, rfl, by simpa using hR2, HO⟩ | exact ⟨R2, by simpa using hR2, HO⟩
set_option maxRecDepth 100000 in
set_option maxHeartbeats 4000000 in
theorem growNil_calls (n : Nat) (h0 : 0 < n) (h5 : n ≤ 1000000) (w : World) : Calls Tryd.prog 36 #[.slice none 0 0, .int .i64 (n : Int)] w fun e w' => ∃ v R, e = .returned v ∧ GRow 5 v [] R ∧ Mine w w' R := by
  have HO := Mine.start w
  obtain ⟨i, hi, hz, hs, hb⟩ : ∃ i, Tryd.prog.info? 5 = some i ∧ i.zero = some (.int .u8 0) ∧ i.size = 1 ∧ i.bytes = 1 := by
    have hinfo : (Tryd.prog.info? 5).map (fun i => (i.zero, i.size, i.bytes)) = some (some (.int .u8 0), 1, 1) := by kernel_rfl
    cases hi : Tryd.prog.info? 5 with
    | none => rw [hi] at hinfo; cases hinfo
    | some i => rw [hi] at hinfo; simp at hinfo; exact ⟨i, rfl, hinfo.1, hinfo.2.1, hinfo.2.2⟩
  have hap := fun ty => Lib.run_append_nil_zeros (P := Tryd.prog) w 24 3 ty 5 i (.int .u8 0) .i64 .i64 Tryd.underlying24 Tryd.underlying3 hi hz n h0 (by omega) (by omega) (by rw [hb]; omega)
  have hge := grownCap_ge w n 0 5
  have hcm := grownCap_le_maxLen w n 0 5 (by unfold maxLen; omega)
  obtain ⟨cap, hcap⟩ : ∃ cap, grownCap w n 0 5 = cap := ⟨_, rfl⟩
  rw [hcap] at hap hge hcm
  obtain ⟨cur, hcur⟩ : ∃ cur, Builtin.zeroCells (Value.int .u8 0).cells n ++ Builtin.zeroCells (Value.int .u8 0).cells (cap - n) = cur := ⟨_, rfl⟩
  have hcs : cur.size = cap := by
    rw [← hcur]
    simp [Builtin.zeroCells, Value.cells]
    omega
  rw [hcur] at hap
  have hM : Mine w (w.drew.alloc (.cells cur 5)) [(w.heap.size, IsCells cur.toList 5)] := by
    have := (Mine.start w).drew.new (.cells cur 5 (0, 0)) (IsCells cur.toList 5) (by simp [IsCells])
    simpa using this
  have HM := Lib.hid hM
  have HG := Lib.hid (growRow (w := w) (n := n) (T := 5) hcm hcs)
  have d1 : 0 < n := h0
  have d2 : ¬ (n : Int) < 0 := by omega
  have d3 : decide ((n : Int) < 0) = false := decide_eq_false d2
  have d4 : decide ((0 : Int) < (n : Int)) = true := decide_eq_true (by omega)
  have d5 : wrap64 (n : Int) = (n : Int) := by unfold wrap64; omega
  have d6 : IntKind.i64.wrap (n : Int) = (n : Int) := IntWalk.i64_in _ (by omega)
  have HAP := Lib.hid hap
  clear hap hM hcs hcur hcap hi hz hs hb hcm hge
  go_enter Tryd.func36, Tryd.ntmps36
  go_wp2_with (first
    | ((with_reducible refine gateAt (N := 22) rfl ?_); refine Lib.wpList_append_run _ rfl _ _ _ _ rfl _ _ rfl rfl _ _ (HAP.out _) ?_))
  go_ret
  first | exact ⟨_, rfl, _, HG.out, HM.out⟩ | exact ⟨_, _, rfl, HG.out, HM.out⟩
def Row3 (w : World) (g : Nat) (pA pB pC : Option Addr) (la lb lc cA cB cC : Nat) : Prop := w.heap[g]? = some (.cells [Value.slice pA la cA, .slice pB lb cB, .slice pC lc cC].toArray 24 (0, 0))
theorem Row3.cell {w W : World} {g : Nat} {pA pB pC : Option Addr} {la lb lc cA cB cC : Nat} (h : Row3 w g pA pB pC la lb lc cA cB cC) (hb : Below w.heap.size w W) : W.cell? ⟨g, 0, none⟩ = some (.slice pA la cA) ∧ W.cell? ⟨g, 1, none⟩ = some (.slice pB lb cB) ∧ W.cell? ⟨g, 2, none⟩ = some (.slice pC lc cC) := by
  have hg := (hb.block g (Array.getElem?_eq_some_iff.1 h).1).trans h
  refine ⟨?_, ?_, ?_⟩ <;> simp [World.cell?, hg]
set_option maxRecDepth 100000 in
set_option maxHeartbeats 4000000 in
theorem concat3_calls (gB : Nat) (pA pB pC : Option Addr) (cA cB cC : Nat) (a b c : List UInt8) (w : World) (h3 : Row3 w gB pA pB pC a.length b.length c.length cA cB cC) (ha : Reads w pA (a.map byV)) (hb : Reads w pB (b.map byV)) (hc : Reads w pC (c.map byV))
    (la : a.length ≤ 200000) (lb : b.length ≤ 200000) (lc : c.length ≤ 200000) (h0 : 0 < a.length) : Calls Tryd.prog 24 #[.slice (some ⟨gB, 0, none⟩) 3 3] w fun e w' => ∃ v R, e = .returned v ∧ GRow 5 v ((a ++ b ++ c).map byV) R ∧ Mine w w' R := by
  have HO := Mine.start w
  have hcl := fun (W : World) (hW : Below w.heap.size w W) => h3.cell hW
  have HRa := Lib.hid fun W (hW : Below w.heap.size w W) => ha.below hW
  have HRb := Lib.hid fun W (hW : Below w.heap.size w W) => hb.below hW
  have HRc := Lib.hid fun W (hW : Below w.heap.size w W) => hc.below hW
  obtain ⟨x0, x1, x2⟩ := hcl w (Below.refl _ _)
  have HCL := Lib.hid hcl
  obtain ⟨n1, e1⟩ : ∃ n1, a.length = n1 := ⟨_, rfl⟩
  obtain ⟨n2, e2⟩ : ∃ n2, b.length = n2 := ⟨_, rfl⟩
  obtain ⟨n3, e3⟩ : ∃ n3, c.length = n3 := ⟨_, rfl⟩
  have H63a : Hid (([] : List Value).length + n1 ≤ maxLen) := Lib.hid (by unfold maxLen; simp; omega)
  have H64a : Hid ((([] : List Value).length + n1) * 1 ≤ 140737488355328) := Lib.hid (by simp; omega)
  have H63b : Hid (([] ++ a.map byV).length + n2 ≤ maxLen) := Lib.hid (by unfold maxLen; simp; omega)
  have H64b : Hid ((([] ++ a.map byV).length + n2) * 1 ≤ 140737488355328) := Lib.hid (by simp; omega)
  have H63c : Hid ((([] ++ a.map byV) ++ b.map byV).length + n3 ≤ maxLen) := Lib.hid (by unfold maxLen; simp; omega)
  have H64c : Hid (((([] ++ a.map byV) ++ b.map byV).length + n3) * 1 ≤ 140737488355328) := Lib.hid (by simp; omega)
  rw [e1, e2, e3] at HCL
  rw [e1] at x0 la h0
  rw [e2] at x1 lb
  rw [e3] at x2 lc
  have HG := Lib.hid fun W => growNil_calls (n1 + n2 + n3) (by omega) (by omega) W
  have w1 : wrap64 (n1 : Int) = (n1 : Int) := by unfold wrap64; omega
  have w2 : wrap64 ((n1 : Int) + (n2 : Int)) = (n1 : Int) + (n2 : Int) := by unfold wrap64; omega
  have w3 : wrap64 ((n1 : Int) + (n2 : Int) + (n3 : Int)) = (n1 : Int) + (n2 : Int) + (n3 : Int) := by unfold wrap64; omega
  have k1 : decide ((n1 : Int) < 0) = false := decide_eq_false (by omega)
  have k2 : decide ((n1 : Int) + (n2 : Int) < 0) = false := decide_eq_false (by omega)
  have k3 : decide ((n1 : Int) + (n2 : Int) + (n3 : Int) < 0) = false := decide_eq_false (by omega)
  have L1 : Hid ((a.map byV).length = n1) := Lib.hid (by rw [List.length_map, e1])
  have L2 : Hid ((b.map byV).length = n2) := Lib.hid (by rw [List.length_map, e2])
  have L3 : Hid ((c.map byV).length = n3) := Lib.hid (by rw [List.length_map, e3])
  clear hcl ha hb hc h3 e1 e2 e3
  go_enter Tryd.func24, Tryd.ntmps24
  go_wp2
  refine wp_loop_rounds 4 ?_
  rw [rounds_succ]
  go_wp2
  rw [rounds_succ]
  go_wp2
  rw [rounds_succ]
  go_wp2
  rw [rounds_succ]
  go_wp2_with (go_at_call 36; refine (HG.out _).mono ?_; rintro eN wN ⟨v1, R1, rfl, hR1, HM⟩; obtain ⟨p1, q1, c1, rfl⟩ := hR1.form; have HON := HO.join HM; clear HO HM x0 x1 x2; have HO := HON; clear HON; (simp only [List.nil_append, List.cons_append] at HO); obtain ⟨x0, x1, x2⟩ := HCL.out _ HO.below)
  refine wp_loop_rounds 4 ?_
  rw [rounds_succ]
  go_wp2_with (first
      | ((with_reducible refine gate ?_); (first
      | ((with_reducible refine gateAt (N := 33) rfl ?_); refine own_append (T := 5) (t := 24) (z := .int .u8 0) (bytes := 1) (news := a.map byV) HO hR1 (by repeat (first | exact Tl.here | exact Tl.app | apply Tl.cons)) rfl rfl (.tmp rfl) (.tmp rfl) Tryd.underlying24 (by kernel_rfl) (by rfl) L1.out (HRa.out _ HO.below) (byV_one _) H63a.out H64a.out ?_; clear HO; intro p2 n2' c2 wN R2 hR2 HO; (simp only [List.nil_append, List.cons_append] at HO); (try simp only [Act.put, List.setIfInBounds_toArray, List.set_cons_zero, List.set_cons_succ])))))
  clear x0 x1 x2
  obtain ⟨x0, x1, x2⟩ := HCL.out _ HO.below
  rw [rounds_succ]
  go_wp2_with (first
      | ((with_reducible refine gate ?_); (first
      | ((with_reducible refine gateAt (N := 33) rfl ?_); refine own_append (T := 5) (t := 24) (z := .int .u8 0) (bytes := 1) (news := b.map byV) HO hR2 (by repeat (first | exact Tl.here | exact Tl.app | apply Tl.cons)) rfl rfl (.tmp rfl) (.tmp rfl) Tryd.underlying24 (by kernel_rfl) (by rfl) L2.out (HRb.out _ HO.below) (byV_one _) H63b.out H64b.out ?_; clear HO; intro p3 n3' c3 wN R3 hR3 HO; (simp only [List.nil_append, List.cons_append] at HO); (try simp only [Act.put, List.setIfInBounds_toArray, List.set_cons_zero, List.set_cons_succ])))))
  clear x0 x1 x2
  obtain ⟨x0, x1, x2⟩ := HCL.out _ HO.below
  rw [rounds_succ]
  go_wp2_with (first
      | ((with_reducible refine gate ?_); (first
      | ((with_reducible refine gateAt (N := 33) rfl ?_); refine own_append (T := 5) (t := 24) (z := .int .u8 0) (bytes := 1) (news := c.map byV) HO hR3 (by repeat (first | exact Tl.here | exact Tl.app | apply Tl.cons)) rfl rfl (.tmp rfl) (.tmp rfl) Tryd.underlying24 (by kernel_rfl) (by rfl) L3.out (HRc.out _ HO.below) (byV_one _) H63c.out H64c.out ?_; clear HO; intro p4 n4' c4 wN R4 hR4 HO; (simp only [List.nil_append, List.cons_append] at HO); (try simp only [Act.put, List.setIfInBounds_toArray, List.set_cons_zero, List.set_cons_succ])))))
  rw [rounds_succ]
  go_wp2
  go_ret
  have hfin : GRow 5 (.slice p4 n4' c4) ((a ++ b ++ c).map byV) R4 := by simpa using hR4
  first | exact ⟨_, rfl, _, hfin, HO⟩ | exact ⟨_, _, rfl, hfin, HO⟩
end Go.Proofs.YtcglbfpmcpammaaDoor
end
section
namespace Go.Proofs.YtcglbfpmcpammaaDoor.G
open Go.RowKit Go.Proofs.YtcglbfpmcpammaaDoorW.PrintWords Go.Proofs.YtcglbfpmcpammaaDoorW.PrintLast Go.Proofs.YtcglbfpmcpammaaDoorW.PrintMore
attribute [local go_sem] max2_int min2_int max_two min_two max_three min_three max_four min_four
set_option linter.unusedVariables false
set_option linter.unusedSimpArgs false
def wire_Num.l0 : Nat → List Int → Int → Int → Int → Int → List (List Int) → ByteArray → Int → ByteArray → Option (Int × Int × (List (List Int)) × ByteArray × Int × ByteArray)
  | 0, _, _, _, _, _, _, _, _, _ => none
  | k + 1, x13, x14, x15, x178000, x178001, x178002, x178003, x178004, x178005 => if x15 < x14 then (if 0 ≤ x15 then (if x15 < (x13.length : Int) then (if x178002.length < 5864062014805 then (wire_Num.l0 k x13 x14 (wrap64 (x15 + 1)) x178000 x178001 (x178002 ++ [(([rd x13 x15] : List Int))]) x178003 x178004 x178005) else (none)) else (none)) else (none)) else (some (x178000, x178001, x178002, x178003, x178004, x178005))
def wire_Num.f (k : Nat) (a0 : Int) (a1 : Int) (l2 : List Int) : Option (Int × Int × (List (List Int)) × ByteArray × Int × ByteArray) := wire_Num.l0 k l2 (l2.length : Int) 0 1 a0 ([] : List (List Int)) (⟨#[]⟩ : ByteArray) a1 (⟨#[]⟩ : ByteArray)
theorem wire_Num.mono_l : ∀ k, (∀ y0 y1 y2 y3 y4 y5 y6 y7 y8, LeO (wire_Num.l0 k y0 y1 y2 y3 y4 y5 y6 y7 y8) (wire_Num.l0 (k + 1) y0 y1 y2 y3 y4 y5 y6 y7 y8))
  | 0 => fun _ _ _ _ _ _ _ _ _ r h => by simp [wire_Num.l0] at h
  | k + 1 => by
    have ih0 := wire_Num.mono_l k
    · intro y0 y1 y2 y3 y4 y5 y6 y7 y8
      unfold wire_Num.l0
      repeat' first
      | (with_reducible exact ih0 _ _ _ _ _ _ _ _ _)
      | (with_reducible exact LeO.refl _)
      | (with_reducible exact LeO.none _)
      | (with_reducible refine LeO.ite ?_ ?_)
      | (with_reducible refine LeO.bind ?_ (fun _ => ?_))
      | exact ih0 _ _ _ _ _ _ _ _ _
      | exact LeO.none _
      | refine LeO.ite ?_ ?_
      | refine LeO.bind ?_ (fun _ => ?_)
theorem wire_Num.mono : ∀ a0 a1 a2 k, LeO (wire_Num.f k a0 a1 a2) (wire_Num.f (k + 1) a0 a1 a2) := by
  intro a0 a1 a2 k
  have ih0 := wire_Num.mono_l k
  unfold wire_Num.f
  repeat' first
      | (with_reducible exact ih0 _ _ _ _ _ _ _ _ _)
      | (with_reducible exact LeO.refl _)
      | (with_reducible exact LeO.none _)
      | (with_reducible refine LeO.ite ?_ ?_)
      | (with_reducible refine LeO.bind ?_ (fun _ => ?_))
      | exact ih0 _ _ _ _ _ _ _ _ _
      | exact LeO.none _
      | refine LeO.ite ?_ ?_
      | refine LeO.bind ?_ (fun _ => ?_)
set_option maxHeartbeats 8000000 in
set_option maxRecDepth 100000 in
theorem wire_Num.calls (k : Nat) (a0 : Int) (a1 : Int) (A2 : Option Addr) (c2 : Nat) (l2 : List Int) (r1 : Int) (r2 : Int) (r3 : List (List Int)) (r4 : ByteArray) (r5 : Int) (r6 : ByteArray) (w : World) (hr2 : Kd.C (Kd.int .i64) w A2 l2.length l2) (hc2 : l2.length ≤ c2) (h : wire_Num.f k a0 a1 l2 = some (r1, r2, r3, r4, r5, r6)) :
    Calls Tryd.prog 38 #[.int .u8 a0, .int .u8 a1, .slice A2 l2.length c2] w fun e w' => ∃ v2_ : Value, e = .returned (.agg #[.int .i64 r1, .int .u8 r2, v2_, .string r4, .int .u8 r5, .string r6]) ∧ Kd.S (Kd.slice 3 (Kd.int .i64)) 35 w' w.heap.size (fun _ => True) v2_ r3 ∧ Below w.heap.size w w' := by
  have hu64 := Tryd.underlying64
  have HR2 := Aside0.mk hr2
  have HC2 := Aside0.mk hc2
  clear hr2 hc2
  have HB := Aside0.mk (Below.refl w.heap.size w)
  have H : (wire_Num.l0 k l2 (l2.length : Int) 0 1 a0 ([] : List (List Int)) (⟨#[]⟩ : ByteArray) a1 (⟨#[]⟩ : ByteArray)) = some (r1, r2, r3, r4, r5, r6) := h
  clear h
  have H' := Aside0.mk H
  clear H
  go_enter Tryd.func38, Tryd.ntmps38
  go_wp2_with (first | ((with_reducible refine gate_dst (N := 6) rfl ?_); refine box_event ?hg (N := 6) ?hd (cs := #[.int .i64 0, .int .u8 0, .slice none 0 0, .string (⟨#[]⟩ : ByteArray), .int .u8 0, .string (⟨#[]⟩ : ByteArray)]) (t := 64) ?hr ?_; (case hd => rfl); (case hg => rfl); (case hr => first | (go_simp; done) | (go_simp; rfl)); intro gb176 hg w4 hbox hb; have n0_ := Aside0.mk (below_step (by repeat (first | (with_reducible first | exact HB.out | apply below_alloc | apply pw_below_drewN | apply below_drew1) | exact HB.out)) hb); have n1_ := Aside0.mk (hbox); have n2_ := Aside0.mk ((by rw [hg]; exact (below_size (by repeat (first | (with_reducible first | exact HB.out | apply below_alloc | apply pw_below_drewN | apply below_drew1) | exact HB.out))) : w.heap.size ≤ gb176)); have n3_ := Aside0.mk ((by rw [hg]; exact (below_size (by repeat (first | (with_reducible first | exact HB.out | apply below_alloc | apply pw_below_drewN | apply below_drew1) | exact HB.out))) : w.heap.size ≤ gb176)); clear HB; have HB := n0_; have BK176 := n1_; have GW176 := n2_; have GE176 := n3_; clear n0_ n1_ n2_ n3_; clear hb hbox hg) | ((with_reducible refine gate_dst (N := 7) rfl ?_); refine box_event ?hg (N := 7) ?hd (cs := #[.int .i64 0, .int .u8 0, .slice none 0 0, .string (⟨#[]⟩ : ByteArray), .int .u8 0, .string (⟨#[]⟩ : ByteArray)]) (t := 64) ?hr ?_; (case hd => rfl); (case hg => rfl); (case hr => first | (go_simp; done) | (go_simp; rfl)); intro gb177 hg w5 hbox hb; have n0_ := Aside0.mk (blk_below (g := gb176) (o := .cells #[.int .i64 0, .int .u8 0, .slice none 0 0, .string (⟨#[]⟩ : ByteArray), .int .u8 0, .string (⟨#[]⟩ : ByteArray)] 64 (0, 0)) (by (with_reducible repeat (first | refine blk_drewN ?_ _ | refine blk_drew ?_ | refine blk_alloc ?_ _)); exact BK176.out) hb); have n1_ := Aside0.mk (below_step (by repeat (first | (with_reducible first | exact HB.out | apply below_alloc | apply pw_below_drewN | apply below_drew1 | refine below_set ?_ GE176.out) | exact HB.out)) hb); have n2_ := Aside0.mk (hbox); have n3_ := Aside0.mk ((by rw [hg]; exact (below_size (by repeat (first | (with_reducible first | exact HB.out | apply below_alloc | apply pw_below_drewN | apply below_drew1 | refine below_set ?_ GE176.out) | exact HB.out))) : w.heap.size ≤ gb177)); have n4_ := Aside0.mk ((by rw [hg]; exact (below_size (by repeat (first | (with_reducible first | exact HB.out | apply below_alloc | apply pw_below_drewN | apply below_drew1 | refine below_set ?_ GE176.out) | exact HB.out))) : w.heap.size ≤ gb177)); have n5_ := Aside0.mk ((by rw [hg]; exact Nat.ne_of_lt (blk_lt (g := gb176) (o := .cells #[.int .i64 0, .int .u8 0, .slice none 0 0, .string (⟨#[]⟩ : ByteArray), .int .u8 0, .string (⟨#[]⟩ : ByteArray)] 64 (0, 0)) (by (with_reducible repeat (first | refine blk_drewN ?_ _ | refine blk_drew ?_ | refine blk_alloc ?_ _)); exact BK176.out)) : gb176 ≠ gb177)); have n6_ := Aside0.mk ((by rw [hg]; exact Nat.ne_of_gt (blk_lt (g := gb176) (o := .cells #[.int .i64 0, .int .u8 0, .slice none 0 0, .string (⟨#[]⟩ : ByteArray), .int .u8 0, .string (⟨#[]⟩ : ByteArray)] 64 (0, 0)) (by (with_reducible repeat (first | refine blk_drewN ?_ _ | refine blk_drew ?_ | refine blk_alloc ?_ _)); exact BK176.out)) : gb177 ≠ gb176)); clear BK176; clear HB; have BK176 := n0_; have HB := n1_; have BK177 := n2_; have GW177 := n3_; have GE177 := n4_; have NB176_177 := n5_; have NB177_176 := n6_; clear n0_ n1_ n2_ n3_ n4_ n5_ n6_; clear hb hbox hg; have hnb6 := NB177_176.out; have hnc6 := NB176_177.out; have hcz7_0 : w5.cell? ⟨gb177, 0, none⟩ = some (.int .i64 0) := (blk_cell BK177.out 0).trans rfl; have hcz7_1 : w5.cell? ⟨gb177, 1, none⟩ = some (.int .u8 0) := (blk_cell BK177.out 1).trans rfl; have hcz7_2 : w5.cell? ⟨gb177, 2, none⟩ = some (.slice none 0 0) := (blk_cell BK177.out 2).trans rfl; have hcz7_3 : w5.cell? ⟨gb177, 3, none⟩ = some (.string (⟨#[]⟩ : ByteArray)) := (blk_cell BK177.out 3).trans rfl; have hcz7_4 : w5.cell? ⟨gb177, 4, none⟩ = some (.int .u8 0) := (blk_cell BK177.out 4).trans rfl; have hcz7_5 : w5.cell? ⟨gb177, 5, none⟩ = some (.string (⟨#[]⟩ : ByteArray)) := (blk_cell BK177.out 5).trans rfl; have hfz7_0 := blk_frozen BK177.out 0; have hfz7_1 := blk_frozen BK177.out 1; have hfz7_2 := blk_frozen BK177.out 2; have hfz7_3 := blk_frozen BK177.out 3; have hfz7_4 := blk_frozen BK177.out 4; have hfz7_5 := blk_frozen BK177.out 5))
  go_loopg [15] k (fun kq v15 w' => ∃ (x15_1 : Int) (x178002_1 : List (List Int)) (u178002 : Value), v15 = .int .i64 x15_1 ∧ Aside0 (wire_Num.l0 kq l2 (l2.length : Int) x15_1 1 a0 x178002_1 (⟨#[]⟩ : ByteArray) a1 (⟨#[]⟩ : ByteArray) = some (r1, r2, r3, r4, r5, r6)) ∧ Aside0 (kq ≤ k) ∧ Aside0 (Kd.S (Kd.slice 3 (Kd.int .i64)) 35 w' w.heap.size (fun _ => True) u178002 x178002_1) ∧ Aside0 (w'.heap[gb176]? = some (.cells #[.int .i64 0, .int .u8 0, (.slice none 0 0), .string (⟨#[]⟩ : ByteArray), .int .u8 0, .string (⟨#[]⟩ : ByteArray)] 64 (0, 0))) ∧ Aside0 (w'.heap[gb177]? = some (.cells #[.int .i64 1, .int .u8 a0, u178002, .string (⟨#[]⟩ : ByteArray), .int .u8 a1, .string (⟨#[]⟩ : ByteArray)] 64 (0, 0))) ∧ Aside0 (Below w.heap.size w w'))
  case atStart => exact ⟨(0), (([] : List (List Int))), (.slice none 0 0), (by first | rfl | (simp; done) | (simp [*]; done)), H', ⟨Nat.le_refl _⟩, ⟨by first | exact Kd.S_nil _ _ _ _ _ | exact Kd.N_nil _ _ _ _ _ | exact Kd.V_nil _ _ _ _ _ | exact Kd.Q_nil _ _ _ _ _ | exact Kd.R_nil _ _ _ _ _⟩, ⟨by (with_reducible repeat (first | refine blk_drewN ?_ _ | refine blk_drew ?_ | refine blk_alloc ?_ _)); refine blk_far ?_ NB176_177.out _; (with_reducible repeat (first | refine blk_drewN ?_ _ | refine blk_drew ?_ | refine blk_alloc ?_ _)); refine blk_far ?_ NB176_177.out _; (with_reducible repeat (first | refine blk_drewN ?_ _ | refine blk_drew ?_ | refine blk_alloc ?_ _)); refine blk_far ?_ NB176_177.out _; (with_reducible repeat (first | refine blk_drewN ?_ _ | refine blk_drew ?_ | refine blk_alloc ?_ _)); refine blk_far ?_ NB176_177.out _; (with_reducible repeat (first | refine blk_drewN ?_ _ | refine blk_drew ?_ | refine blk_alloc ?_ _)); refine blk_far ?_ NB176_177.out _; (with_reducible repeat (first | refine blk_drewN ?_ _ | refine blk_drew ?_ | refine blk_alloc ?_ _)); refine blk_far ?_ NB176_177.out _; (with_reducible repeat (first | refine blk_drewN ?_ _ | refine blk_drew ?_ | refine blk_alloc ?_ _)); exact BK176.out⟩, ⟨by (with_reducible repeat (first | refine blk_drewN ?_ _ | refine blk_drew ?_ | refine blk_alloc ?_ _)); refine blk_put (cs := #[.int .i64 1, .int .u8 a0, .slice none 0 0, .string (⟨#[]⟩ : ByteArray), .int .u8 a1, .string (⟨#[]⟩ : ByteArray)]) ?_ 5 _ rfl; (with_reducible repeat (first | refine blk_drewN ?_ _ | refine blk_drew ?_ | refine blk_alloc ?_ _)); refine blk_put (cs := #[.int .i64 1, .int .u8 a0, .slice none 0 0, .string (⟨#[]⟩ : ByteArray), .int .u8 0, .string (⟨#[]⟩ : ByteArray)]) ?_ 4 _ rfl; (with_reducible repeat (first | refine blk_drewN ?_ _ | refine blk_drew ?_ | refine blk_alloc ?_ _)); refine blk_put (cs := #[.int .i64 1, .int .u8 a0, .slice none 0 0, .string (⟨#[]⟩ : ByteArray), .int .u8 0, .string (⟨#[]⟩ : ByteArray)]) ?_ 3 _ rfl; (with_reducible repeat (first | refine blk_drewN ?_ _ | refine blk_drew ?_ | refine blk_alloc ?_ _)); refine blk_put (cs := #[.int .i64 1, .int .u8 a0, .slice none 0 0, .string (⟨#[]⟩ : ByteArray), .int .u8 0, .string (⟨#[]⟩ : ByteArray)]) ?_ 2 _ rfl; (with_reducible repeat (first | refine blk_drewN ?_ _ | refine blk_drew ?_ | refine blk_alloc ?_ _)); refine blk_put (cs := #[.int .i64 1, .int .u8 0, .slice none 0 0, .string (⟨#[]⟩ : ByteArray), .int .u8 0, .string (⟨#[]⟩ : ByteArray)]) ?_ 1 _ rfl; (with_reducible repeat (first | refine blk_drewN ?_ _ | refine blk_drew ?_ | refine blk_alloc ?_ _)); refine blk_put (cs := #[.int .i64 0, .int .u8 0, .slice none 0 0, .string (⟨#[]⟩ : ByteArray), .int .u8 0, .string (⟨#[]⟩ : ByteArray)]) ?_ 0 _ rfl; (with_reducible repeat (first | refine blk_drewN ?_ _ | refine blk_drew ?_ | refine blk_alloc ?_ _)); exact BK177.out⟩, ⟨by repeat (first | (with_reducible first | exact HB.out | apply below_alloc | apply pw_below_drewN | apply below_drew1 | refine below_set ?_ GE176.out | refine below_set ?_ GE177.out) | exact HB.out)⟩⟩
  case round =>
    clear H'
    try clear c2
    try clear p2
    try clear c3
    try clear c6
    try clear hcz7_0
    try clear hcz7_1
    try clear hcz7_2
    try clear hcz7_3
    try clear hcz7_4
    try clear hcz7_5
    try clear hfz7_0
    try clear hfz7_1
    try clear hfz7_2
    try clear hfz7_3
    try clear hfz7_4
    try clear hfz7_5
    obtain ⟨x15_1, x178002_1, u178002, rfl, HA, HK1, HO_178002, BK176, BK177, HB⟩ := hrel
    cases gk with
    | zero => exact absurd HA.out (by simp [wire_Num.l0])
    | succ k1 =>
      have H := HA.out
      clear HA
      simp only [wire_Num.l0] at H
      by_cases c8 : x15_1 < (l2.length : Int)
      · rw [if_pos c8] at H
        have c8b0 : decide (x15_1 < (l2.length : Int)) = true := decide_eq_true c8
        clear c8
        by_cases c9 : 0 ≤ x15_1
        · rw [if_pos c9] at H
          have c9b0 : decide (0 ≤ x15_1) = true := decide_eq_true c9
          clear c9
          by_cases c10 : x15_1 < (l2.length : Int)
          · rw [if_pos c10] at H
            have c10b0 : decide (x15_1 < (l2.length : Int)) = true := decide_eq_true c10
            clear c10
            obtain ⟨y179, hy179⟩ : ∃ y_ : List Int, y_ = (([rd l2 x15_1] : List Int)) := ⟨_, rfl⟩
            replace H : (if x178002_1.length < 5864062014805 then (wire_Num.l0 k1 l2 (l2.length : Int) (wrap64 (x15_1 + 1)) 1 a0 (x178002_1 ++ [y179]) (⟨#[]⟩ : ByteArray) a1 (⟨#[]⟩ : ByteArray)) else (none)) = some (r1, r2, r3, r4, r5, r6) := by first | (rw [hy179]; with_reducible exact H) | (have H2_ := (Option.bind_some _ _).symm.trans H; rw [hy179]; with_reducible exact H2_) | (have H2_ := (Option.bind_some _ _).symm.trans H; with_reducible exact H2_) | with_reducible exact H | (rw [hy179]; exact H) | exact H
            have Ny179 := Aside0.mk hy179
            clear hy179
            by_cases c11 : x178002_1.length < 5864062014805
            · rw [if_pos c11] at H
              have LMc11 := Aside0.mk c11
              clear c11
              obtain ⟨y182, hy182⟩ : ∃ y_ : List (List Int), y_ = (x178002_1 ++ [y179]) := ⟨_, rfl⟩
              replace H : (wire_Num.l0 k1 l2 (l2.length : Int) (wrap64 (x15_1 + 1)) 1 a0 y182 (⟨#[]⟩ : ByteArray) a1 (⟨#[]⟩ : ByteArray)) = some (r1, r2, r3, r4, r5, r6) := by first | (rw [hy182]; with_reducible exact H) | (have H2_ := (Option.bind_some _ _).symm.trans H; rw [hy182]; with_reducible exact H2_) | (have H2_ := (Option.bind_some _ _).symm.trans H; with_reducible exact H2_) | with_reducible exact H | (rw [hy182]; exact H) | exact H
              have Ny182 := Aside0.mk hy182
              clear hy182
              have H' := Aside0.mk H
              clear H
              have p178 : 0 ≤ (x15_1 : Int) := of_decide_eq_true (by first | (with_reducible assumption) | assumption)
              have q178 : x15_1 < (l2.length : Int) := of_decide_eq_true (by first | (with_reducible assumption) | assumption)
              obtain ⟨ad178, e178, hx178_0⟩ := Kd.at_int HR2.out x15_1 p178 q178
              cases e178
              replace hx178_0 := (HB.out.cell (World.block_lt_of_cell? w _ hx178_0)).trans hx178_0
              replace p178 := eq_true p178
              replace q178 := eq_true q178
              have hnb12 := NB177_176.out
              have hnc12 := NB176_177.out
              have hcz13_0 : wr.cell? ⟨gb177, 0, none⟩ = some (.int .i64 1) := (blk_cell BK177.out 0).trans rfl
              have hcz13_1 : wr.cell? ⟨gb177, 1, none⟩ = some (.int .u8 a0) := (blk_cell BK177.out 1).trans rfl
              have hcz13_2 : wr.cell? ⟨gb177, 2, none⟩ = some (u178002) := (blk_cell BK177.out 2).trans rfl
              have hcz13_3 : wr.cell? ⟨gb177, 3, none⟩ = some (.string (⟨#[]⟩ : ByteArray)) := (blk_cell BK177.out 3).trans rfl
              have hcz13_4 : wr.cell? ⟨gb177, 4, none⟩ = some (.int .u8 a1) := (blk_cell BK177.out 4).trans rfl
              have hcz13_5 : wr.cell? ⟨gb177, 5, none⟩ = some (.string (⟨#[]⟩ : ByteArray)) := (blk_cell BK177.out 5).trans rfl
              have hfz13_0 := blk_frozen BK177.out 0
              have hfz13_1 := blk_frozen BK177.out 1
              have hfz13_2 := blk_frozen BK177.out 2
              have hfz13_3 := blk_frozen BK177.out 3
              have hfz13_4 := blk_frozen BK177.out 4
              have hfz13_5 := blk_frozen BK177.out 5
              go_wp2_with (first | ((with_reducible refine gate_dst (N := 22) rfl ?_); refine Kd.R_lit (Kd.int .i64) _ 3 ?hg (N := 22) ?hd (xs := ([rd l2 x15_1] : List Int)) (inner := [.int .i64 (rd l2 x15_1)]) (ok := fun _ => True) (okp := fun _ => True) ?hr ?hp (fun _ hk => hk) trivial (Below.refl _ _) (Nat.le_refl _) (by simp) ?_; (case hd => rfl); (case hg => rfl); (case hr => first | (go_simp; done) | (go_simp; rfl)); (case hp => exact (Reps.one (show Kd.M (Kd.int .i64) _ _ _ (rd l2 x15_1) [.int .i64 (rd l2 x15_1)] from rfl) (Reps.none _ _))); intro v180 w14 ho15 hb hg_ hnew_; clear hg_ hnew_; (first | rw [← Ny179.out] at ho15 | (simp only [Int.reduceToNat] at ho15; rw [← Ny179.out] at ho15)); have n0_ := Aside0.mk (Kd.S_elder' (by (with_reducible repeat (first | apply Kd.S_alloc | apply Kd.S_drewN | apply Kd.S_drew)); exact HO_178002.out) (Kd.R_base ho15) hb); have n1_ := Aside0.mk (Kd.R_lower ho15 (below_size (by repeat (first | (with_reducible first | exact HB.out | apply below_alloc | apply pw_below_drewN | apply below_drew1 | refine below_set ?_ GE176.out | refine below_set ?_ GE177.out) | exact HB.out)))); have n2_ := Aside0.mk (blk_below (g := gb176) (o := .cells #[.int .i64 0, .int .u8 0, .slice none 0 0, .string (⟨#[]⟩ : ByteArray), .int .u8 0, .string (⟨#[]⟩ : ByteArray)] 64 (0, 0)) (by (with_reducible repeat (first | refine blk_drewN ?_ _ | refine blk_drew ?_ | refine blk_alloc ?_ _)); exact BK176.out) hb); have n3_ := Aside0.mk (blk_below (g := gb177) (o := .cells #[.int .i64 1, .int .u8 a0, u178002, .string (⟨#[]⟩ : ByteArray), .int .u8 a1, .string (⟨#[]⟩ : ByteArray)] 64 (0, 0)) (by (with_reducible repeat (first | refine blk_drewN ?_ _ | refine blk_drew ?_ | refine blk_alloc ?_ _)); exact BK177.out) hb); have n4_ := Aside0.mk (below_step (by repeat (first | (with_reducible first | exact HB.out | apply below_alloc | apply pw_below_drewN | apply below_drew1 | refine below_set ?_ GE176.out | refine below_set ?_ GE177.out) | exact HB.out)) hb); clear HO_178002; clear BK176; clear BK177; clear HB; have HO_178002 := n0_; have HO181 := n1_; have BK176 := n2_; have BK177 := n3_; have HB := n4_; clear n0_ n1_ n2_ n3_ n4_; clear hb ho15; obtain ⟨Ao17, co17, eo17⟩ := Kd.R_slice HO181.out; subst eo17) | ((with_reducible refine gate_builtin (b := .append) (xs := #[.tmp 20, .tmp 23]) rfl ?_); at_builtin; refine Kd.S_append (Kd.slice 3 (Kd.int .i64)) (w0 := w) w.heap.size rfl (.tmp 20) (.tmp 23) 62 35 (.slice none 0 0) 24 rfl Tryd.underlying62 info35 rfl (by decide) (by omega) u178002 x178002_1 y179 [.slice Ao17 y179.length co17] (fun _ => True) (fun k_ => some k_ = (.slice Ao17 y179.length co17 : Value).ownBlock) rfl rfl ?aP (fun k_ hk_ => ((Kd.R_mono (ok' := fun k_ => ((fun _ => True)) k_ ∧ some k_ ≠ (u178002 : Value).ownBlock) (Kd.R_apart' (HO181.out) (Kd.S_typed HO_178002.out) (by decide)) (fun k_ hk => ⟨trivial, hk.2⟩))).1 k_ hk_.symm) ?aF ?aO ?aB ?aS ?aL ?_; (case aP => exact Kd.M_row (Kd.R_mono (Kd.R_tight rfl (Kd.R_mono (ok' := fun k_ => ((fun _ => True)) k_ ∧ some k_ ≠ (u178002 : Value).ownBlock) (Kd.R_apart' (HO181.out) (Kd.S_typed HO_178002.out) (by decide)) (fun k_ hk => ⟨trivial, hk.2⟩))) (fun _ h_ => h_))); (case aB => exact (by repeat (first | (with_reducible first | exact HB.out | apply below_alloc | apply pw_below_drewN | apply below_drew1 | refine below_set ?_ GE176.out | refine below_set ?_ GE177.out) | exact HB.out))); (case aF => exact (fun _ _ => trivial)); (case aO => exact (by (with_reducible repeat (first | apply Kd.S_alloc | apply Kd.S_drewN | apply Kd.S_drew)); exact Kd.S_mono HO_178002.out (fun k_ hk => ⟨trivial, fun e_ => hk.2 e_⟩))); (case aS => exact (below_size (by repeat (first | (with_reducible first | exact HB.out | apply below_alloc | apply pw_below_drewN | apply below_drew1 | refine below_set ?_ GE176.out | refine below_set ?_ GE177.out) | exact HB.out)))); (case aL => have := LMc11.out; omega); intro v183 w16 ho hb hg hat; rw [← Ny182.out] at ho; have n0_ := Aside0.mk (blk_grown (g := gb176) (o := .cells #[.int .i64 0, .int .u8 0, .slice none 0 0, .string (⟨#[]⟩ : ByteArray), .int .u8 0, .string (⟨#[]⟩ : ByteArray)] 64 (0, 0)) (by (with_reducible repeat (first | refine blk_drewN ?_ _ | refine blk_drew ?_ | refine blk_alloc ?_ _)); exact BK176.out) hg (Kd.S_ne HO_178002.out BK176.out (by decide))); have n1_ := Aside0.mk (blk_grown (g := gb177) (o := .cells #[.int .i64 1, .int .u8 a0, u178002, .string (⟨#[]⟩ : ByteArray), .int .u8 a1, .string (⟨#[]⟩ : ByteArray)] 64 (0, 0)) (by (with_reducible repeat (first | refine blk_drewN ?_ _ | refine blk_drew ?_ | refine blk_alloc ?_ _)); exact BK177.out) hg (Kd.S_ne HO_178002.out BK177.out (by decide))); have n2_ := Aside0.mk (hb); have n3_ := Aside0.mk (ho); clear BK176; clear BK177; clear HB; clear HO_178002; clear HO181; have BK176 := n0_; have BK177 := n1_; have HB := n2_; have HO184 := n3_; clear n0_ n1_ n2_ n3_; clear ho hb hg hat; obtain ⟨Ao18, co18, eo18⟩ := Kd.S_slice HO184.out; subst eo18; have hcz19_0 : w16.cell? ⟨gb177, 0, none⟩ = some (.int .i64 1) := (blk_cell BK177.out 0).trans rfl; have hcz19_1 : w16.cell? ⟨gb177, 1, none⟩ = some (.int .u8 a0) := (blk_cell BK177.out 1).trans rfl; have hcz19_2 : w16.cell? ⟨gb177, 2, none⟩ = some (u178002) := (blk_cell BK177.out 2).trans rfl; have hcz19_3 : w16.cell? ⟨gb177, 3, none⟩ = some (.string (⟨#[]⟩ : ByteArray)) := (blk_cell BK177.out 3).trans rfl; have hcz19_4 : w16.cell? ⟨gb177, 4, none⟩ = some (.int .u8 a1) := (blk_cell BK177.out 4).trans rfl; have hcz19_5 : w16.cell? ⟨gb177, 5, none⟩ = some (.string (⟨#[]⟩ : ByteArray)) := (blk_cell BK177.out 5).trans rfl; have hfz19_0 := blk_frozen BK177.out 0; have hfz19_1 := blk_frozen BK177.out 1; have hfz19_2 := blk_frozen BK177.out 2; have hfz19_3 := blk_frozen BK177.out 3; have hfz19_4 := blk_frozen BK177.out 4; have hfz19_5 := blk_frozen BK177.out 5))
              go_roundg k1
              case measure => have := HK1.out; omega
              case rel => exact ⟨(wrap64 (x15_1 + 1)), (y182), (.slice Ao18 y182.length co18), (by first | rfl | (simp; done) | (simp [*]; done)), H', ⟨by have := HK1.out; omega⟩, ⟨by (with_reducible repeat (first | apply Kd.S_alloc | apply Kd.S_drewN | apply Kd.S_drew)); exact Kd.S_mono (Kd.S_far (p := ⟨gb177, 2, none⟩) (Kd.S_types HO184.out BK177.out (by decide)) (fun _ hk => hk.2) (.slice Ao18 y182.length co18)) (fun _ hk => trivial)⟩, ⟨by (with_reducible repeat (first | refine blk_drewN ?_ _ | refine blk_drew ?_ | refine blk_alloc ?_ _)); refine blk_far ?_ NB176_177.out _; (with_reducible repeat (first | refine blk_drewN ?_ _ | refine blk_drew ?_ | refine blk_alloc ?_ _)); exact BK176.out⟩, ⟨by (with_reducible repeat (first | refine blk_drewN ?_ _ | refine blk_drew ?_ | refine blk_alloc ?_ _)); refine blk_put (cs := #[.int .i64 1, .int .u8 a0, u178002, .string (⟨#[]⟩ : ByteArray), .int .u8 a1, .string (⟨#[]⟩ : ByteArray)]) ?_ 2 _ rfl; (with_reducible repeat (first | refine blk_drewN ?_ _ | refine blk_drew ?_ | refine blk_alloc ?_ _)); exact BK177.out⟩, ⟨by repeat (first | (with_reducible first | exact HB.out | apply below_alloc | apply pw_below_drewN | apply below_drew1 | refine below_set ?_ GE176.out | refine below_set ?_ GE177.out) | exact HB.out)⟩⟩
            · rw [if_neg c11] at H
              exact absurd H (by simp)
          · rw [if_neg c10] at H
            exact absurd H (by simp)
        · rw [if_neg c9] at H
          exact absurd H (by simp)
      · rw [if_neg c8] at H
        have c8b0 : decide (x15_1 < (l2.length : Int)) = false := decide_eq_false c8
        clear c8
        simp only [Option.some.injEq, Prod.mk.injEq] at H
        obtain ⟨rfl, rfl, rfl, rfl, rfl, rfl⟩ := H
        have hnb20 := NB177_176.out
        have hnc20 := NB176_177.out
        have hcz21_0 : wr.cell? ⟨gb177, 0, none⟩ = some (.int .i64 1) := (blk_cell BK177.out 0).trans rfl
        have hcz21_1 : wr.cell? ⟨gb177, 1, none⟩ = some (.int .u8 a0) := (blk_cell BK177.out 1).trans rfl
        have hcz21_2 : wr.cell? ⟨gb177, 2, none⟩ = some (u178002) := (blk_cell BK177.out 2).trans rfl
        have hcz21_3 : wr.cell? ⟨gb177, 3, none⟩ = some (.string (⟨#[]⟩ : ByteArray)) := (blk_cell BK177.out 3).trans rfl
        have hcz21_4 : wr.cell? ⟨gb177, 4, none⟩ = some (.int .u8 a1) := (blk_cell BK177.out 4).trans rfl
        have hcz21_5 : wr.cell? ⟨gb177, 5, none⟩ = some (.string (⟨#[]⟩ : ByteArray)) := (blk_cell BK177.out 5).trans rfl
        have hfz21_0 := blk_frozen BK177.out 0
        have hfz21_1 := blk_frozen BK177.out 1
        have hfz21_2 := blk_frozen BK177.out 2
        have hfz21_3 := blk_frozen BK177.out 3
        have hfz21_4 := blk_frozen BK177.out 4
        have hfz21_5 := blk_frozen BK177.out 5
        have hcz22_0 : wr.cell? ⟨gb176, 0, none⟩ = some (.int .i64 0) := (blk_cell BK176.out 0).trans rfl
        have hcz22_1 : wr.cell? ⟨gb176, 1, none⟩ = some (.int .u8 0) := (blk_cell BK176.out 1).trans rfl
        have hcz22_2 : wr.cell? ⟨gb176, 2, none⟩ = some (.slice none 0 0) := (blk_cell BK176.out 2).trans rfl
        have hcz22_3 : wr.cell? ⟨gb176, 3, none⟩ = some (.string (⟨#[]⟩ : ByteArray)) := (blk_cell BK176.out 3).trans rfl
        have hcz22_4 : wr.cell? ⟨gb176, 4, none⟩ = some (.int .u8 0) := (blk_cell BK176.out 4).trans rfl
        have hcz22_5 : wr.cell? ⟨gb176, 5, none⟩ = some (.string (⟨#[]⟩ : ByteArray)) := (blk_cell BK176.out 5).trans rfl
        have hfz22_0 := blk_frozen BK176.out 0
        have hfz22_1 := blk_frozen BK176.out 1
        have hfz22_2 := blk_frozen BK176.out 2
        have hfz22_3 := blk_frozen BK176.out 3
        have hfz22_4 := blk_frozen BK176.out 4
        have hfz22_5 := blk_frozen BK176.out 5
        obtain ⟨Ao23, co23, eo23⟩ := Kd.S_slice HO_178002.out
        subst eo23
        go_wp2
        refine bodyPost_ret (results_cell_row rfl _ _ gb176 64 #[.int .i64 1, .int .u8 a0, .slice Ao23 x178002_1.length co23, .string (⟨#[]⟩ : ByteArray), .int .u8 a1, .string (⟨#[]⟩ : ByteArray)] (0, 0) _ rfl (by (with_reducible repeat (first | refine blk_drewN ?_ _ | refine blk_drew ?_ | refine blk_alloc ?_ _)); refine blk_put (cs := #[.int .i64 1, .int .u8 a0, .slice Ao23 x178002_1.length co23, .string (⟨#[]⟩ : ByteArray), .int .u8 a1, .string (⟨#[]⟩ : ByteArray)]) ?_ 5 _ rfl; (with_reducible repeat (first | refine blk_drewN ?_ _ | refine blk_drew ?_ | refine blk_alloc ?_ _)); refine blk_put (cs := #[.int .i64 1, .int .u8 a0, .slice Ao23 x178002_1.length co23, .string (⟨#[]⟩ : ByteArray), .int .u8 0, .string (⟨#[]⟩ : ByteArray)]) ?_ 4 _ rfl; (with_reducible repeat (first | refine blk_drewN ?_ _ | refine blk_drew ?_ | refine blk_alloc ?_ _)); refine blk_put (cs := #[.int .i64 1, .int .u8 a0, .slice Ao23 x178002_1.length co23, .string (⟨#[]⟩ : ByteArray), .int .u8 0, .string (⟨#[]⟩ : ByteArray)]) ?_ 3 _ rfl; (with_reducible repeat (first | refine blk_drewN ?_ _ | refine blk_drew ?_ | refine blk_alloc ?_ _)); refine blk_put (cs := #[.int .i64 1, .int .u8 a0, .slice none 0 0, .string (⟨#[]⟩ : ByteArray), .int .u8 0, .string (⟨#[]⟩ : ByteArray)]) ?_ 2 _ rfl; (with_reducible repeat (first | refine blk_drewN ?_ _ | refine blk_drew ?_ | refine blk_alloc ?_ _)); refine blk_put (cs := #[.int .i64 1, .int .u8 0, .slice none 0 0, .string (⟨#[]⟩ : ByteArray), .int .u8 0, .string (⟨#[]⟩ : ByteArray)]) ?_ 1 _ rfl; (with_reducible repeat (first | refine blk_drewN ?_ _ | refine blk_drew ?_ | refine blk_alloc ?_ _)); refine blk_put (cs := #[.int .i64 0, .int .u8 0, .slice none 0 0, .string (⟨#[]⟩ : ByteArray), .int .u8 0, .string (⟨#[]⟩ : ByteArray)]) ?_ 0 _ rfl; (with_reducible repeat (first | refine blk_drewN ?_ _ | refine blk_drew ?_ | refine blk_alloc ?_ _)); exact BK176.out) Tryd.underlying64 rfl (by kernel_rfl)) rfl ?_
        exact ⟨_, by first | rfl | (simp [errW_none, errW_some] <;> rfl) | (simp [*, errW_none, errW_some] <;> rfl), by (with_reducible repeat (first | apply Kd.S_alloc | apply Kd.S_drewN | apply Kd.S_drew)); exact Kd.S_mono (Kd.S_far (p := ⟨gb176, 5, none⟩) (Kd.S_far (p := ⟨gb176, 4, none⟩) (Kd.S_far (p := ⟨gb176, 3, none⟩) (Kd.S_far (p := ⟨gb176, 2, none⟩) (Kd.S_far (p := ⟨gb176, 1, none⟩) (Kd.S_far (p := ⟨gb176, 0, none⟩) (Kd.S_types HO_178002.out BK176.out (by decide)) (fun _ hk => hk.2) (.int .i64 1)) (fun _ hk => hk.2) (.int .u8 a0)) (fun _ hk => hk.2) (.slice Ao23 x178002_1.length co23)) (fun _ hk => hk.2) (.string (⟨#[]⟩ : ByteArray))) (fun _ hk => hk.2) (.int .u8 a1)) (fun _ hk => hk.2) (.string (⟨#[]⟩ : ByteArray))) (fun _ hk => trivial), by repeat (first | (with_reducible first | exact HB.out | apply below_alloc | apply pw_below_drewN | apply below_drew1 | refine below_set ?_ GE176.out | refine below_set ?_ GE177.out) | exact HB.out)⟩
end Go.Proofs.YtcglbfpmcpammaaDoor.G
end
section
namespace Go.Proofs.YtcglbfpmcpammaaDoor.G
open Go.RowKit Go.Proofs.YtcglbfpmcpammaaDoorW.PrintWords Go.Proofs.YtcglbfpmcpammaaDoorW.PrintLast Go.Proofs.YtcglbfpmcpammaaDoorW.PrintMore
attribute [local go_sem] max2_int min2_int max_two min_two max_three min_three max_four min_four
set_option linter.unusedVariables false
set_option linter.unusedSimpArgs false
def num_Text.f (a0 : Int) : Option (ByteArray) := if -9223372036854775808 ≤ a0 ∧ a0 ≤ 9223372036854775807 then some ⟨(textL a0).toArray⟩ else none
theorem num_Text.calls (a0 : Int) (r : ByteArray) (w : World) (hT : Tab w) (h : num_Text.f a0 = some r) :
    Calls Tryd.prog 63 #[.int .i64 a0] w fun e w' => e = .returned (.string r) ∧ Below w.heap.size w w' := by
  unfold num_Text.f at h
  by_cases hb : -9223372036854775808 ≤ a0 ∧ a0 ≤ 9223372036854775807
  · rw [if_pos hb] at h
    obtain rfl := Option.some.inj h
    exact text_calls a0 hb.1 hb.2 w hT
  · rw [if_neg hb] at h; cases h
end Go.Proofs.YtcglbfpmcpammaaDoor.G
end
section
namespace Go.Proofs.YtcglbfpmcpammaaDoor.G
open Go.RowKit Go.Proofs.YtcglbfpmcpammaaDoorW.PrintWords Go.Proofs.YtcglbfpmcpammaaDoorW.PrintLast Go.Proofs.YtcglbfpmcpammaaDoorW.PrintMore
attribute [local go_sem] max2_int min2_int max_two min_two max_three min_three max_four min_four
set_option linter.unusedVariables false
set_option linter.unusedSimpArgs false
def strings_Join.f (l0 : List ByteArray) (a1 : ByteArray) : Option (ByteArray) := if l0.length ≤ 140737488355328 ∧ (Lib.join (l0.map (·.data.toList)) a1.data.toList).length ≤ 140737488355328 then some ⟨(Lib.join (l0.map (·.data.toList)) a1.data.toList).toArray⟩ else none
theorem strings_Join.calls (A0 : Option Addr) (c0 : Nat) (l0 : List ByteArray) (a1 : ByteArray) (r : ByteArray) (w : World) (hr0 : Kd.C Kd.string w A0 l0.length l0) (hc0 : l0.length ≤ c0) (h : strings_Join.f l0 a1 = some r) :
    Calls Tryd.prog 52 #[.slice A0 l0.length c0, .string a1] w fun e w' => e = .returned (.string r) ∧ Below w.heap.size w w' := by
  unfold strings_Join.f at h
  by_cases hb : l0.length ≤ 140737488355328 ∧ (Lib.join (l0.map (·.data.toList)) a1.data.toList).length ≤ 140737488355328
  · rw [if_pos hb] at h
    obtain rfl := Option.some.inj h
    cases l0 with
    | nil => exact (Tryd.strings_Join_none A0 c0 a1 w).mono fun _ _ h => ⟨h.1, by rw [h.2]; exact Below.refl _ _⟩
    | cons x xs =>
      have hr : Kit.Reads w A0 ((x :: xs).map Value.string) := Kit.reads_scalar ByteArray.empty hr0
      obtain ⟨b, o, rfl, hc⟩ := hr 0 _ rfl
      refine Tryd.strings_Join b o c0 (x :: xs) a1 w (fun j y hy => ?_) (World.block_lt_of_cell? w _ hc) hb.1 hc0 hb.2
      obtain ⟨b', o', he, hc'⟩ := hr j (.string y) (by rw [List.getElem?_map, hy]; rfl)
      cases he
      exact hc'
  · rw [if_neg hb] at h; cases h
end Go.Proofs.YtcglbfpmcpammaaDoor.G
end
section
namespace Go.Proofs.YtcglbfpmcpammaaDoor.G
open Go.RowKit Go.Proofs.YtcglbfpmcpammaaDoorW.PrintWords Go.Proofs.YtcglbfpmcpammaaDoorW.PrintLast Go.Proofs.YtcglbfpmcpammaaDoorW.PrintMore
attribute [local go_sem] max2_int min2_int max_two min_two max_three min_three max_four min_four
set_option linter.unusedVariables false
set_option linter.unusedSimpArgs false
def wire_between.f (a0 : ByteArray) (a1 : Int) (a2 : Int) : Option (Bool) := if 0 ≤ a1 ∧ a1 < 128 ∧ 0 ≤ a2 ∧ a2 < 128 then some (btwL a1.toNat a2.toNat a0.data.toList) else none
theorem wire_between.calls (a0 : ByteArray) (a1 : Int) (a2 : Int) (r : Bool) (w : World) (h : wire_between.f a0 a1 a2 = some r) :
    Calls Tryd.prog 49 #[.string a0, .int .u8 a1, .int .u8 a2] w fun e w' => e = .returned (.bool r) ∧ Below w.heap.size w w' := by
  unfold wire_between.f at h
  by_cases hb : 0 ≤ a1 ∧ a1 < 128 ∧ 0 ≤ a2 ∧ a2 < 128
  · rw [if_pos hb] at h
    obtain rfl := Option.some.inj h
    have h1 := between_calls a0 a1.toNat a2.toNat (by omega) (by omega) w
    rw [Int.toNat_of_nonneg hb.1, Int.toNat_of_nonneg hb.2.2.1] at h1
    exact h1
  · rw [if_neg hb] at h; cases h
end Go.Proofs.YtcglbfpmcpammaaDoor.G
end
section
namespace Go.Proofs.YtcglbfpmcpammaaDoor.G
open Go.RowKit Go.Proofs.YtcglbfpmcpammaaDoorW.PrintWords Go.Proofs.YtcglbfpmcpammaaDoorW.PrintLast Go.Proofs.YtcglbfpmcpammaaDoorW.PrintMore
attribute [local go_sem] max2_int min2_int max_two min_two max_three min_three max_four min_four
set_option linter.unusedVariables false
set_option linter.unusedSimpArgs false
def wire_listed.f (l0 : List (List Int)) : Option (Bool) := some (listedB l0)
theorem wire_listed.calls (A0 : Option Addr) (c0 : Nat) (l0 : List (List Int)) (r : Bool) (w : World) (hr0 : Kd.C (Kd.slice 3 (Kd.int .i64)) w A0 l0.length l0) (hc0 : l0.length ≤ c0) (h : wire_listed.f l0 = some r) :
    Calls Tryd.prog 50 #[.slice A0 l0.length c0] w fun e w' => e = .returned (.bool r) ∧ Below w.heap.size w w' := by
  obtain rfl := Option.some.inj h
  exact listed_calls A0 c0 l0 w hr0
end Go.Proofs.YtcglbfpmcpammaaDoor.G
end
section
namespace Go.Proofs.YtcglbfpmcpammaaDoor.G
open Go.RowKit Go.Proofs.YtcglbfpmcpammaaDoorW.PrintWords Go.Proofs.YtcglbfpmcpammaaDoorW.PrintLast Go.Proofs.YtcglbfpmcpammaaDoorW.PrintMore
attribute [local go_sem] max2_int min2_int max_two min_two max_three min_three max_four min_four
set_option linter.unusedVariables false
set_option linter.unusedSimpArgs false
def strings_ContainsRune.f (a0 : ByteArray) (a1 : Int) : Option (Bool) := if 0 ≤ a1 ∧ a1 < 128 then some (decide (0 ≤ Lib.indexByte a0.data.toList a1.toNat.toUInt8)) else none
theorem strings_ContainsRune.calls (a0 : ByteArray) (a1 : Int) (r : Bool) (w : World) (h : strings_ContainsRune.f a0 a1 = some r) :
    Calls Tryd.prog 59 #[.string a0, .int .i32 a1] w fun e w' => e = .returned (.bool r) ∧ Below w.heap.size w w' := by
  unfold strings_ContainsRune.f at h
  by_cases hb : 0 ≤ a1 ∧ a1 < 128
  · rw [if_pos hb] at h
    obtain rfl := Option.some.inj h
    exact (Tryd.strings_ContainsRune_ascii a0 a1 w hb.1 hb.2).mono fun e w' ⟨h1, h2⟩ => ⟨h1, by rw [h2]; exact Below.refl _ _⟩
  · rw [if_neg hb] at h; cases h
end Go.Proofs.YtcglbfpmcpammaaDoor.G
end
