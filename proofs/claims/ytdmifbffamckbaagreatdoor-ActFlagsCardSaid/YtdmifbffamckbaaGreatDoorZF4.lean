/- F: texts run together by shake.py: AcV AcW AcX Gclavierref03a AcY. -/
import Derived.ArgAppend
import Derived.Below
import Derived.BigFrameIn
import Derived.BigQuiet
import Derived.ChangeKeysEq
import Derived.Deep.AppendLies
import Derived.Deep.CutBlock
import Derived.Deep.DeepCutAuto
import Derived.Deep.Draws
import Derived.Deep.LoopGhost
import Derived.Deep.OwnRows
import Derived.Deep.Quiet
import Derived.Deep.QuietTactic
import Derived.Deep.RegionHeld3
import Derived.DeepKeys3
import Derived.Ground.GgzProg
import Derived.Ground.Names2Prog
import Derived.Ground.SlgnProg
import Derived.KernelRfl
import Derived.Laws.AppendOwn
import Derived.Laws.AppendOwnNone
import Derived.Laws.BitsLemmas
import Derived.Laws.BytesArg
import Derived.Laws.Concat
import Derived.Laws.CopyRow
import Derived.Laws.IdiomCopy
import Derived.Laws.IdiomStrings
import Derived.Laws.MakeOwn
import Derived.Laws.OwnMore
import Derived.Laws.Rows
import Derived.Laws.Slices
import Derived.Laws.StructEq
import Derived.Laws.Tables
import Derived.Lib.AppendIntMem
import Derived.Lib.AppendStr
import Derived.Lib.ConvBytes
import Derived.Lib.Hide
import Derived.Lib.ItoaLen
import Derived.Lib.ItoaNum
import Derived.Lib.LaidTab
import Derived.Lib.SlKeysI
import Derived.LoopIn
import Derived.LoopNIn
import Derived.MapKept
import Derived.Maps.AppendAt
import Derived.Maps.Own
import Derived.Orders
import Derived.OrdersHeld
import Derived.OrdersIn
import Derived.Outline
import Derived.OwnWalk
import Derived.OwnWalkIn
import Derived.RangeFuncBound
import Derived.RangeFuncBox
import Derived.RangeFuncCalls
import Derived.RangeFuncLeaves
import Derived.RangeFuncNested
import Derived.RangeFuncWrites
import Derived.RowKit
import Derived.RowKit3
import Derived.Shelf.Abstract
import Derived.Shelf.LaysM
import Derived.Shelf.RegionOpen
import Derived.Shelf.SlIterI.Nil
import Derived.Shelf.Slices.Clone
import Derived.Shelf.Slices.Empties2
import Derived.Shelf.Slices.Equal
import Derived.Shelf.Slices.In.SortNone
import Derived.Shelf.Slices.SearchI
import Derived.Shelf.Slices.Turned
import Derived.Shelf.SlicesE.Clone
import Derived.Shelf.Small.Bits
import Derived.Shelf.Small.Strs
import Derived.Shelf.Small.Utf8
import Derived.Shelf.Small.Wraps
import Derived.Shelf.Sort.Plain
import Derived.Shelf.SortM.Plain
import Derived.Shelf.SortM.SortNone
import Derived.Shelf.Strconv.Itoa0
import Derived.Shelf.Strconv.Itoa1
import Derived.Shelf.Strconv.Itoa2
import Derived.Shelf.Strconv.Itoa3
import Derived.Shelf.Strings.Builder1
import Derived.Shelf.Strings.Builder2
import Derived.Shelf.Strings.Builder2Cap
import Derived.Shelf.Strings.BuilderCap
import Derived.Shelf.Strings.BuilderF
import Derived.Shelf.Strings.BuilderK
import Derived.Shelf.Strings.OnBuilder
import Derived.Shelf.Strings.Runes
import Derived.Shelf.Strings.Search1
import Derived.Shelf.Strings.Search2
import Derived.Shelf.Strings.Search3
import Derived.Shelf.Strings.Shaped
import Derived.Shelf.Unicode.Decode
import Derived.Shelf.Unicode.DecodeAny
import Derived.Shelf.Unicode.DecodeSlow
import Derived.Still
import Derived.Tactics
import Derived.TacticsIn
import Derived.TacticsInMore
import Derived.Test.YtdmifbffamckbaaGreatDoorProg
import Derived.WalkKit
import Derived.WalkLawsBesides
import Derived.WalkSpells
import Derived.WideLaws
import Derived.Test.YtdmifbffamckbaaGreatDoorZF1
import Derived.Test.YtdmifbffamckbaaGreatDoorZF2
import Derived.Test.YtdmifbffamckbaaGreatDoorZF3
section
namespace Go.Proofs.YtdmifbffamckbaaGreatDoor
set_option linter.unusedVariables false
set_option linter.unusedSimpArgs false
open Go.RowKit Kit Go.Shelf Go.Proofs.YtdmifbffamckbaaGreatDoorW.PrintWords Go.Proofs.YtdmifbffamckbaaGreatDoorW.PrintMore
def popL (now : Int) (l : List Int) (n : Int) : Int × List Int :=
  if n ≤ 0 then (now, l) else if (l.length : Int) < n then (0, []) else (l.getD (l.length - n.toNat) 0, l.take (l.length - n.toNat))
def nowK (now : Int) (l : List Int) (k : Nat) : Int := if k = 0 then now else l.getD (l.length - k) 0
theorem ints_of_own {w : World} {B n : Nat} {v : Value} {l : List Int} (h : w.ownsRow B 3 1 v n (intsV l)) : ∃ A' c', v = .slice A' l.length c' ∧ l.length ≤ c' ∧ IntsI w A' l := by
  have hl : (intsV l).length = l.length := intsV_length l
  obtain ⟨h0, h⟩ := h
  rcases h with ⟨rfl, h1⟩ | ⟨g, cap, cur, h1, h2, h3, h4, h5, h6, h7⟩
  · have : l = [] := List.eq_nil_of_length_eq_zero (by omega)
    subst this
    exact ⟨none, 0, rfl, Nat.le_refl _, .inl rfl⟩
  · have hn : n = l.length := by omega
    subst hn
    rw [Nat.mul_one] at h7
    refine ⟨_, cap, h1, h4, .inr ⟨g, 0, cur, rfl, h3, fun j hj => ?_⟩⟩
    have h8 : (intsV l)[j]? = some (.int .i64 (l.getD j 0)) := by simp [intsV, hj, List.getD]
    rw [← h7, List.getElem?_take, if_pos hj] at h8
    simpa using h8
theorem clone_ints (A : Option Addr) (c : Nat) (l : List Int) (w : World) (hl : l.length ≤ 1000) (hI : IntsI w A l) :
    Calls Tryz.prog 128 #[.slice A l.length c] w fun e w' => ∃ A' c', e = .returned (.slice A' l.length c') ∧ l.length ≤ c' ∧ IntsI w' A' l ∧ Below w.heap.size w w' :=
  (clone_calls A c l w hl hI.reads).mono fun e w' ⟨v, h1, h2, h3⟩ => by
    obtain ⟨A', c', rfl, h4, h5⟩ := ints_of_own h2
    exact ⟨A', c', h1, h4, h5, h3⟩
theorem mn_le (a b : Int) : mn a b ≤ b ∧ mn a b ≤ a ∧ (mn a b = a ∨ mn a b = b) := by
  unfold mn
  split <;> omega
theorem max2_mx' (k k' : IntKind) (x y : Int) : Builtin.max2 (.int k x) (.int k' y) = pure (.int k (mx x y)) := max2_int k k' x y
theorem min2_mn' (k k' : IntKind) (x y : Int) : Builtin.min2 (.int k x) (.int k' y) = pure (.int k (mn x y)) := min2_int k k' x y
attribute [local irreducible] wpList Calls wpQuiet
attribute [local go_sem] max2_mx' min2_mn' max_two min_two
set_option maxRecDepth 100000 in
set_option maxHeartbeats 8000000 in
theorem pop_calls (now n : Int) (A : Option Addr) (c : Nat) (l : List Int) (w : World) (hl : l.length ≤ 100) (hc : l.length ≤ c) (hI : IntsI w A l) :
    Calls Tryz.prog 93 #[.agg #[.int .i64 now, .slice A l.length c], .int .i64 n] w fun e w' => ∃ A' c', e = .returned (.agg #[.int .i64 (popL now l n).1, .slice A' (popL now l n).2.length c']) ∧ (popL now l n).2.length ≤ c' ∧ IntsI w' A' (popL now l n).2 ∧ Below w.heap.size w w' := by
  have HO := Mine.start w
  obtain ⟨N, hN⟩ : ∃ N : Int, mn n ((l.length : Int) + 1) = N := ⟨_, rfl⟩
  have hNle : N ≤ (l.length : Int) + 1 := by rw [← hN]; exact (mn_le _ _).1
  have u0 : IntKind.i64.wrap ((l.length : Int) + 1) = (l.length : Int) + 1 := IntWalk.i64_in _ (by omega)
  have HI := Lib.hid hI
  have HNE := Lib.hid hN
  clear hI
  go_enter Tryz.func93, Tryz.ntmps93
  go_wp2_with (first
      | ((with_reducible refine gate ?_); (first
      | ((with_reducible refine gateAt (N := 2) rfl ?_); refine own_boxF (T := 42) HO rfl rfl rfl ?_; clear HO; intro g2 wN hgg2 HO; (try simp only [Act.put, List.setIfInBounds_toArray, List.set_cons_zero, List.set_cons_succ]))
      | ((with_reducible refine gateAt (N := 4) rfl ?_); refine own_allocF (T := 42) HO rfl rfl Tryz.zeroValue42 rfl ?_; clear HO; intro g4 wN hgg4 HO; (try simp only [Act.put, List.setIfInBounds_toArray, List.set_cons_zero, List.set_cons_succ]))
      | ((refine own_load1 (T := 26) HO rfl rfl rfl (by first | exact .head _ | exact .tail _ (.head _)) Tryz.isAgg26 rfl ?_); (try simp only [Act.put, List.setIfInBounds_toArray, List.set_cons_zero, List.set_cons_succ]))
      | ((refine own_store1 (T := 26) HO rfl rfl rfl (by first | exact .const | exact .tmp rfl | exact .func) (by rfl) (by first | exact .here | exact .there (.here)) Tryz.sizeOf26 (by repeat constructor) (by rfl) ?_); clear HO; intro wN HO; (try simp only [Act.put, List.setIfInBounds_toArray, List.set_cons_zero, List.set_cons_succ])))))
  go_loopw [12] (fun i wr => ∃ (k : Nat) (m cc : Nat), k + m = l.length ∧ (k = 0 ∨ (k : Int) ≤ N) ∧ m ≤ cc ∧ i = .int .i64 (k : Int) ∧ Mine w wr ((g4, IsCells [.int .i64 0, .slice none 0 0] 42) :: (g2, IsCells [.int .i64 (nowK now l k), .slice A m cc] 42) :: [])) (fun i _ => l.length + 1 - (intOf i).toNat)
  case atStart => exact ⟨0, l.length, c, by omega, .inl rfl, hc, rfl, HO⟩
  case round =>
    obtain ⟨k, m, cc, hkm, hkN, hmc, rfl, HO2⟩ := hrel
    clear HO
    have HO := HO2
    clear HO2
    by_cases hlt : (k : Int) < N
    · have d1 : decide ((k : Int) < N) = true := decide_eq_true hlt
      by_cases hm0 : m = 0
      · subst hm0
        have d2 : decide ((0 : Int) - 1 < 0) = true := by decide
        have hv : popL now l n = (0, []) := by
          unfold popL
          have h3 := mn_le n ((l.length : Int) + 1)
          have : (l.length : Int) < n := by omega
          rw [if_neg (by omega), if_pos this]
        have HV := Lib.hid hv
        clear hv hN hNle hkm hkN hmc u0 hl hc
        go_wp2_with (first
      | ((with_reducible refine gate ?_); (first
      | ((refine own_load (T := 42) HO rfl rfl rfl (by first | exact .head _ | exact .tail _ (.head _)) Tryz.isAgg42 Tryz.sizeOf42 (by repeat constructor) ?_); (try simp only [Act.put, List.setIfInBounds_toArray, List.set_cons_zero, List.set_cons_succ]))
      | ((refine own_load1 (T := 26) HO rfl rfl rfl (by first | exact .head _ | exact .tail _ (.head _)) Tryz.isAgg26 rfl ?_); (try simp only [Act.put, List.setIfInBounds_toArray, List.set_cons_zero, List.set_cons_succ]))
      | ((refine own_store1 (T := 26) HO rfl rfl rfl (by first | exact .const | exact .tmp rfl | exact .func) (by rfl) (by first | exact .here | exact .there (.here)) Tryz.sizeOf26 (by repeat constructor) (by rfl) ?_); clear HO; intro wN HO; (try simp only [Act.put, List.setIfInBounds_toArray, List.set_cons_zero, List.set_cons_succ]))
      | ((refine own_store (T := 42) HO rfl rfl rfl rfl (by first | exact .here | exact .there (.here)) Tryz.sizeOf42 (by repeat constructor) rfl ?_); clear HO; intro wN HO; (try simp only [Act.put, List.setIfInBounds_toArray, List.set_cons_zero, List.set_cons_succ])))))
        refine bodyPost_ret (own_results1 HO Tryz.results93 rfl (.head _) Tryz.isAgg42 Tryz.sizeOf42 (by repeat constructor)) rfl ?_
        rw [HV.out]
        exact ⟨none, 0, rfl, Nat.le_refl _, .inl rfl, HO.below⟩
      · obtain ⟨m', hm'⟩ : ∃ m', m = m' + 1 := ⟨m - 1, by omega⟩
        have hlen : m' < l.length := by omega
        have hIo := HI.out
        rcases hIo with hIo | ⟨gA, oA, csA, rfl, hA1, hA2⟩
        · subst hIo; simp at hlen
        obtain ⟨z, hz⟩ : ∃ z, l.getD m' 0 = z := ⟨_, rfl⟩
        have hcell : w.cell? ⟨gA, oA + m', none⟩ = some (.int .i64 z) := by
          have h1 := hA2 m' hlen
          rw [hz] at h1
          simp [World.cell?, hA1, h1]
        have hst : nowK now l (k + 1) = z := by
          unfold nowK
          rw [if_neg (by omega), ← hz]
          congr 1
          omega
        have HST := Lib.hid hst
        have HCELL := Lib.hid hcell
        have HKM := Lib.hid hkm
        have HLT := Lib.hid hlt
        have u1 : IntKind.i64.wrap ((m : Int) - 1) = (m' : Int) := by rw [IntKind.wrap_i64]; omega
        have d2 : decide ((m' : Int) < 0) = false := decide_eq_false (by omega)
        have e1 : decide (m' < m) = true := decide_eq_true (by omega)
        have e2 : m' < m := by omega
        have e3 : m' ≤ cc := by omega
        have e4 : (m' : Int) < (m : Int) := by omega
        have e5 : decide ((m' : Int) < (m : Int)) = true := decide_eq_true e4
        have e6 : (m' : Int) ≤ (cc : Int) := by omega
        have e7 : decide ((m' : Int) ≤ (cc : Int)) = true := decide_eq_true e6
        have u2 : IntKind.i64.wrap ((k : Int) + 1) = ((k + 1 : Nat) : Int) := by rw [IntKind.wrap_i64]; omega
        have U2 := Lib.hid u2
        have HM1 := Lib.hid hm'
        clear hm' hcell hz hst hlt hkm hkN hm0 hN hNle hA1 hA2 hlen hmc hl hc
        go_wp2_with (first
      | ((with_reducible refine gate ?_); (first
      | ((refine own_load1 (T := 26) HO rfl rfl rfl (by first | exact .head _ | exact .tail _ (.head _)) Tryz.isAgg26 rfl ?_); (try simp only [Act.put, List.setIfInBounds_toArray, List.set_cons_zero, List.set_cons_succ]))
      | ((refine own_store1 (T := 26) HO rfl rfl rfl (by first | exact .const | exact .tmp rfl | exact .func) (by rfl) (by first | exact .here | exact .there (.here)) Tryz.sizeOf26 (by repeat constructor) (by rfl) ?_); clear HO; intro wN HO; (try simp only [Act.put, List.setIfInBounds_toArray, List.set_cons_zero, List.set_cons_succ])))))
        refine region_law 11 [fIs (.pointer (some ⟨g2, 1, none⟩)), fIs (.slice (some ⟨gA, oA, none⟩) m cc), fIs (.int .i64 (m' : Int)), fIs (.pointer (some ⟨gA, oA + m', none⟩)), fIs (.int .i64 z), fIs (.pointer (some ⟨g2, 1, none⟩)), fIs (.slice (some ⟨gA, oA, none⟩) m cc), fIs (.int .i64 (m' : Int)), fIs (.int .i64 (m' : Int)), fIs (.slice (some ⟨gA, oA, none⟩) m' m'), fIs (.agg #[.int .i64 z, .slice (some ⟨gA, oA, none⟩) m' m'])] HO (by kernel_rfl) (by kernel_rfl) (by decide) (by kernel_rfl)
          (stays_cons (Stays.fIs _) (stays_cons (Stays.fIs _) (stays_cons (Stays.fIs _) (stays_cons (Stays.fIs _) (stays_cons (Stays.fIs _) (stays_cons (Stays.fIs _) (stays_cons (Stays.fIs _) (stays_cons (Stays.fIs _) (stays_cons (Stays.fIs _) (stays_cons (Stays.fIs _) (stays_cons (Stays.fIs _) stays_nil))))))))))) ?_
        intro vals A hA
        simp [fillL, dstOf, List.range, List.range.loop, Act.put] at hA
        subst hA
        refine ⟨⟨?_, ?_, ?_, ?_, ?_, ?_, ?_, ?_, ?_, ?_, ?_, trivial⟩, ?_⟩
        all_goals intro W hd hM hb0
        case refine_1 =>
          skip
          exact st_val rfl (by simp only [execOp]; first | (go_simp; done) | (go_simp; rfl)) rfl
        case refine_2 =>
          have v0 : vals 0 = .pointer (some ⟨g2, 1, none⟩) := hd 0 (by kernel_rfl)
          rw [v0]
          exact st_load1 hM rfl rfl rfl (.tail _ (.head _)) Tryz.isAgg26 rfl rfl
        case refine_3 =>
          skip
          exact st_val rfl (by simp only [execOp]; first | (go_simp; done) | (go_simp; rfl)) rfl
        case refine_4 =>
          have v1 : vals 1 = .slice (some ⟨gA, oA, none⟩) m cc := hd 1 (by kernel_rfl)
          have v2 : vals 2 = .int .i64 (m' : Int) := hd 2 (by kernel_rfl)
          rw [v1, v2]
          exact st_val rfl (by simp only [execOp]; go_simp; first | done | rfl | (simp [Addr.add, e2, e3, e4, e6]; done) | (simp [Addr.add, e2, e3, e4, e6]; rfl)) rfl
        case refine_5 =>
          have v3 : vals 3 = .pointer (some ⟨gA, oA + m', none⟩) := hd 3 (by kernel_rfl)
          rw [v3]
          exact st_read hM rfl rfl rfl HCELL.out Tryz.isAgg3 rfl
        case refine_6 =>
          skip
          exact st_val rfl (by simp only [execOp]; first | (go_simp; done) | (go_simp; rfl)) rfl
        case refine_7 =>
          have v5 : vals 5 = .pointer (some ⟨g2, 1, none⟩) := hd 5 (by kernel_rfl)
          rw [v5]
          exact st_load1 hM rfl rfl rfl (.tail _ (.head _)) Tryz.isAgg26 rfl rfl
        case refine_8 =>
          skip
          exact st_val rfl (by simp only [execOp]; first | (go_simp; done) | (go_simp; rfl)) rfl
        case refine_9 =>
          skip
          exact st_val rfl (by simp only [execOp]; first | (go_simp; done) | (go_simp; rfl)) rfl
        case refine_10 =>
          have v6 : vals 6 = .slice (some ⟨gA, oA, none⟩) m cc := hd 6 (by kernel_rfl)
          have v7 : vals 7 = .int .i64 (m' : Int) := hd 7 (by kernel_rfl)
          have v8 : vals 8 = .int .i64 (m' : Int) := hd 8 (by kernel_rfl)
          rw [v6, v7, v8]
          exact st_val rfl (by simp only [execOp]; go_simp; first | done | rfl | (simp [Addr.add, e2, e3, e4, e6]; done) | (simp [Addr.add, e2, e3, e4, e6]; rfl)) rfl
        case refine_11 =>
          have v4 : vals 4 = .int .i64 z := hd 4 (by kernel_rfl)
          have v9 : vals 9 = .slice (some ⟨gA, oA, none⟩) m' m' := hd 9 (by kernel_rfl)
          rw [v4, v9]
          exact st_val rfl (by simp only [execOp]; first | (go_simp; done) | (go_simp; rfl)) rfl
        case refine_12 =>
          have v10 : vals 10 = .agg #[.int .i64 z, .slice (some ⟨gA, oA, none⟩) m' m'] := hd 10 (by omega)
          rw [v10]
          simp only [List.drop_succ_cons, List.drop_zero]
          have HO := hM
          clear hd hM hb0
          go_wp2_with (first
      | ((with_reducible refine gate ?_); (first
      | ((refine own_load (T := 42) HO rfl rfl rfl (by first | exact .head _ | exact .tail _ (.head _)) Tryz.isAgg42 Tryz.sizeOf42 (by repeat constructor) ?_); (try simp only [Act.put, List.setIfInBounds_toArray, List.set_cons_zero, List.set_cons_succ]))
      | ((refine own_store (T := 42) HO rfl rfl rfl rfl (by first | exact .here | exact .there (.here)) Tryz.sizeOf42 (by repeat constructor) rfl ?_); clear HO; intro wN HO; (try simp only [Act.put, List.setIfInBounds_toArray, List.set_cons_zero, List.set_cons_succ])))))
          go_roundw
          case rel => exact ⟨k + 1, m', m', by have := HKM.out; have := HM1.out; omega, .inr (by have := HLT.out; omega), Nat.le_refl _, congrArg (Value.int .i64) (by first | exact U2.out | omega), by rw [HST.out]; exact HO⟩
          case measure => have := HKM.out; have := HM1.out; have := U2.out; simp only [intOf] at *; omega
    · have d1 : decide ((k : Int) < N) = false := decide_eq_false hlt
      have hv : popL now l n = (nowK now l k, l.take m) := by
        have h3 := mn_le n ((l.length : Int) + 1)
        unfold popL nowK
        by_cases hn0 : n ≤ 0
        · rw [if_pos hn0, if_pos (by omega), List.take_of_length_le (by omega)]
        · rw [if_neg hn0, if_neg (by omega), if_neg (by omega)]
          have e1 : n.toNat = k := by omega
          rw [e1]
          congr 2
          omega
      have hml : (l.take m).length = m := by rw [List.length_take]; omega
      have hcl := fun W (hW : Below w.heap.size w W) => clone_ints A cc (l.take m) W (by omega) ((HI.out.below hW).take m)
      rw [hml] at hcl
      have HC := Lib.hid hcl
      have HV := Lib.hid hv
      have HML := Lib.hid hml
      clear hcl hv hml hN hNle hkm hkN hmc u0 hl hc hlt
      go_wp2_with (first
        | (go_at_call 128; refine (HC.out _ HO.below).mono ?_; rintro eN wN ⟨A', c', rfl, hc2, hI2, hbN⟩; (have HX : (fun w' => IntsI w' A' (l.take m)) wN := hI2); clear hI2; have HON := HO.call hbN; clear HO hbN; have HO := HON; clear HON)
        | ((with_reducible refine gate ?_); (first
          | ((refine own_storeX1 (T := 26) HO HX rfl rfl rfl (by first | exact .const | exact .tmp rfl) (by rfl) (by first | exact .here | exact .there (.here)) (IntsI.xs' (by decide) _ _) Tryz.sizeOf26 (by repeat constructor) (by rfl) ?_); clear HO HX; intro wN HO HX; (try simp only [Act.put, List.setIfInBounds_toArray, List.set_cons_zero, List.set_cons_succ]))
          | ((refine own_storeX (T := 42) HO HX rfl rfl rfl rfl (by first | exact .here | exact .there (.here)) (IntsI.xs' (by decide) _ _) Tryz.sizeOf42 (by repeat constructor) rfl ?_); clear HO HX; intro wN HO HX; (try simp only [Act.put, List.setIfInBounds_toArray, List.set_cons_zero, List.set_cons_succ]))))
        | (first
      | ((with_reducible refine gate ?_); (first
      | ((refine own_load (T := 42) HO rfl rfl rfl (by first | exact .head _ | exact .tail _ (.head _)) Tryz.isAgg42 Tryz.sizeOf42 (by repeat constructor) ?_); (try simp only [Act.put, List.setIfInBounds_toArray, List.set_cons_zero, List.set_cons_succ]))
      | ((refine own_load1 (T := 26) HO rfl rfl rfl (by first | exact .head _ | exact .tail _ (.head _)) Tryz.isAgg26 rfl ?_); (try simp only [Act.put, List.setIfInBounds_toArray, List.set_cons_zero, List.set_cons_succ]))
      | ((refine own_store1 (T := 26) HO rfl rfl rfl (by first | exact .const | exact .tmp rfl | exact .func) (by rfl) (by first | exact .here | exact .there (.here)) Tryz.sizeOf26 (by repeat constructor) (by rfl) ?_); clear HO; intro wN HO; (try simp only [Act.put, List.setIfInBounds_toArray, List.set_cons_zero, List.set_cons_succ]))
      | ((refine own_store (T := 42) HO rfl rfl rfl rfl (by first | exact .here | exact .there (.here)) Tryz.sizeOf42 (by repeat constructor) rfl ?_); clear HO; intro wN HO; (try simp only [Act.put, List.setIfInBounds_toArray, List.set_cons_zero, List.set_cons_succ]))))))
      refine bodyPost_ret (own_results1 HO Tryz.results93 rfl (.head _) Tryz.isAgg42 Tryz.sizeOf42 (by repeat constructor)) rfl ?_
      rw [HV.out]
      refine ⟨A', c', ?_, ?_, HX, HO.below⟩
      · show _ = Ending.returned (Value.agg #[_, Value.slice A' (l.take m).length c'])
        rw [HML.out]
      · show (l.take m).length ≤ c'
        rw [HML.out]
        exact hc2
end Go.Proofs.YtdmifbffamckbaaGreatDoor
end
section
namespace Go.Proofs.YtdmifbffamckbaaGreatDoor
set_option linter.unusedVariables false
set_option linter.unusedSimpArgs false
open Go.RowKit Kit Go.Shelf Go.Proofs.YtdmifbffamckbaaGreatDoorW.PrintWords
def fStk (x : Int) (l : List Int) : Fact := fun v w => ∃ A c, v = .agg #[.int .i64 x, .slice A l.length c] ∧ l.length ≤ c ∧ IntsI w A l
theorem Stays.fStk (x : Int) (l : List Int) : Stays (fStk x l) := fun v w w' ⟨A, c, h1, h2, h3⟩ hb => ⟨A, c, h1, h2, h3.below hb⟩
def StkX (m : Md) (s : List Int) (x : Int) (l : List Int) (s' : List Value) (w : World) : Prop := ∃ A c, s' = stS m s x (.slice A l.length c) ∧ l.length ≤ c ∧ IntsI w A l
theorem StkX.xs (m : Md) (s : List Int) (x : Int) (l : List Int) (s' : List Value) : XS 44 (StkX m s x l s') := by
  rintro w g cs cs' ⟨A, c, h1, h2, h3⟩ hg
  exact ⟨A, c, h1, h2, IntsI.xs A l w g cs cs' h3 hg⟩
theorem put_st {m : Md} {s : List Int} {x x' : Int} {K K' : Value} (h : s.length = 12) : PutAt (stS m s x K) 22 [.int .i64 x', K'] (stS m s x' K') := by
  obtain ⟨s0, s1, s2, s3, s4, s5, s6, s7, s8, s9, s10, s11, rfl⟩ := twelve h
  show PutAt [_, _, _, _, _, _, _, _, _, _, _, _, _, _, _, _, _, _, _, _, _, _, _, _] _ _ [_, _, _, _, _, _, _, _, _, _, _, _, _, _, _, _, _, _, _, _, _, _, _, _]
  repeat constructor
def pushL (now : Int) (l : List Int) : List Int := (l ++ [now]).drop (l.length + 1 - 8)
theorem push_stk (now fl : Int) (A : Option Addr) (c : Nat) (l : List Int) (w : World) (hl : l.length ≤ 100) (hI : IntsI w A l) :
    Calls Tryz.prog 92 #[.agg #[.int .i64 now, .slice A l.length c], .int .i64 fl] w fun e w' => ∃ v, e = .returned v ∧ fStk (flagsI fl) (pushL now l) v w' ∧ Below w.heap.size w w' :=
  (push_calls now fl (flagsI fl) A c l w hl hI.reads (fun W => G.stack_flagsOf.calls fl _ W (flagsOf_eq fl))).mono fun e w' ⟨A', c', h1, h2, _, h4, h5⟩ => ⟨_, h1, ⟨A', c', rfl, h2, h4⟩, h5⟩
theorem pop_stk (now n : Int) (A : Option Addr) (c : Nat) (l : List Int) (w : World) (hl : l.length ≤ 100) (hc : l.length ≤ c) (hI : IntsI w A l) :
    Calls Tryz.prog 93 #[.agg #[.int .i64 now, .slice A l.length c], .int .i64 n] w fun e w' => ∃ v, e = .returned v ∧ fStk (popL now l n).1 (popL now l n).2 v w' ∧ Below w.heap.size w w' :=
  (pop_calls now n A c l w hl hc hI).mono fun e w' ⟨A', c', h1, h2, h4, h5⟩ => ⟨_, h1, ⟨A', c', rfl, h2, h4⟩, h5⟩
attribute [local irreducible] wpList Calls wpQuiet
set_option maxRecDepth 100000 in
set_option maxHeartbeats 8000000 in
theorem kept_push (w : World) (m : Md) (s : List Int) (hs : s.length = 12) (x : Int) (A : Option Addr) (c : Nat) (l : List Int) (hl : l.length ≤ 100) (hc : l.length ≤ c) (hI : IntsI w A l) (sc : List Value) (k f : Int) (i dt : ByteArray) (qA : Option Addr) (qc : Nat) (rows : List (List Int)) (hqc : rows.length ≤ qc) (hqr : SeqAt w qA rows) (a : Int) (ha : argI rows 0 0 = a) :
    DeedX w (stS m s x (.slice A l.length c)) (.plain 58) (.agg sc.toArray) (.agg #[.int .i64 k, .int .u8 62, .slice qA rows.length qc, .string i, .int .u8 f, .string dt]) (fun v s' R W => v = .slice none 0 0 ∧ R = [] ∧ StkX m s (flagsI a) (pushL x l) s' W) := by
  intro gs bs v W hv HO
  obtain rfl : v = .func (.func 58) #[] #[] := hv
  refine ⟨_, _, rfl, enters_of Tryz.func58 (by kernel_rfl) rfl, ?_⟩
  rw [Array.append_empty]
  have HA := Lib.hid fun W (hW : Below w.heap.size w W) => arg_calls k 62 f i dt qA qc rows hqc 0 0 W (Kd.C_below hqr hW)
  rw [ha] at HA
  have HC := Lib.hid fun W (hW : Below w.heap.size w W) => push_stk x a A c l W hl (hI.below hW)
  clear hqr hqc hI ha hl hc
  go_enter Tryz.func58, Tryz.ntmps58
  go_wp2_with (first
    | ((with_reducible refine gateAt (N := 4) rfl ?_); refine own_boxF (T := 34) (cs := sc) HO rfl rfl rfl ?_; clear HO; intro gf wN hggf HO; (try simp only [Act.put, List.setIfInBounds_toArray, List.set_cons_zero, List.set_cons_succ]))
    | ((with_reducible refine gateAt (N := 5) rfl ?_); refine own_boxF (T := 37) (cs := [.int .i64 k, .int .u8 62, .slice qA rows.length qc, .string i, .int .u8 f, .string dt]) HO rfl rfl rfl ?_; clear HO; intro gq wN hggq HO; (try simp only [Act.put, List.setIfInBounds_toArray, List.set_cons_zero, List.set_cons_succ]))
    | (first
      | ((with_reducible refine gate ?_); (first
      | ((refine own_load1 (T := 5) HO rfl rfl rfl (by first | exact .head _ | exact .tail _ (.head _) | exact .tail _ (.tail _ (.head _))) Tryz.isAgg5 rfl ?_); (try simp only [Act.put, List.setIfInBounds_toArray, List.set_cons_zero, List.set_cons_succ]))
      | ((refine own_store1 (T := 5) HO rfl rfl rfl (by first | exact .const | exact .tmp rfl | exact .func) (by rfl) (by first | exact .here | exact .there (.here) | exact .there (.there (.here))) Tryz.sizeOf5 (by repeat constructor) (by rfl) ?_); clear HO; intro wN HO; (try simp only [Act.put, List.setIfInBounds_toArray, List.set_cons_zero, List.set_cons_succ]))))))
  refine region_law 8 [fIs (.pointer (some ⟨gs, 0, none⟩)), fIs (.pointer (some ⟨gs, 0, none⟩)), fIs (.pointer (some ⟨gs, 0, none⟩)), fIs (.pointer (some ⟨gs, 22, none⟩)), fIs (.agg #[.int .i64 x, .slice A l.length c]), fIs (.agg #[.int .i64 k, .int .u8 62, .slice qA rows.length qc, .string i, .int .u8 f, .string dt]), fIs (.int .i64 a), fStk (flagsI a) (pushL x l)] HO (by kernel_rfl) (by kernel_rfl) (by decide) (by kernel_rfl)
    (stays_cons (Stays.fIs _) (stays_cons (Stays.fIs _) (stays_cons (Stays.fIs _) (stays_cons (Stays.fIs _) (stays_cons (Stays.fIs _) (stays_cons (Stays.fIs _) (stays_cons (Stays.fIs _) (stays_cons (Stays.fStk _ _) stays_nil)))))))) ?_
  intro vals A hA
  simp [fillL, dstOf, List.range, List.range.loop, Act.put] at hA
  subst hA
  refine ⟨⟨?_, ?_, ?_, ?_, ?_, ?_, ?_, ?_, trivial⟩, ?_⟩
  all_goals intro W hd hM hb0
  case refine_1 =>
    skip
    exact st_val rfl (by simp only [execOp]; first | (go_simp; done) | (go_simp; rfl)) rfl
  case refine_2 =>
    skip
    exact st_val rfl (by simp only [execOp]; first | (go_simp; done) | (go_simp; rfl)) rfl
  case refine_3 =>
    have v1 : vals 1 = .pointer (some ⟨gs, 0, none⟩) := hd 1 (by kernel_rfl)
    rw [v1]
    exact st_val rfl (by simp only [execOp]; first | (go_simp; done) | (go_simp; rfl)) rfl
  case refine_4 =>
    have v2 : vals 2 = .pointer (some ⟨gs, 0, none⟩) := hd 2 (by kernel_rfl)
    rw [v2]
    exact st_val rfl (by simp only [execOp]; first | (go_simp; done) | (go_simp; rfl)) rfl
  case refine_5 =>
    have v3 : vals 3 = .pointer (some ⟨gs, 22, none⟩) := hd 3 (by kernel_rfl)
    rw [v3]
    exact st_load (vs := [.int .i64 x, .slice A l.length c]) hM rfl rfl rfl (.tail _ (.tail _ (.head _))) Tryz.isAgg42 Tryz.sizeOf42 (slc_st m s _ _ hs) rfl
  case refine_6 =>
    skip
    exact st_load hM rfl rfl rfl (.head _) Tryz.isAgg37 Tryz.sizeOf37 (by repeat constructor) rfl
  case refine_7 =>
    have v5 : vals 5 = .agg #[.int .i64 k, .int .u8 62, .slice qA rows.length qc, .string i, .int .u8 f, .string dt] := hd 5 (by kernel_rfl)
    rw [v5]
    exact st_call rfl (by simp only [execOp]; first | (go_simp; done) | (go_simp; rfl)) (HA.out W hM.below) (by rintro e w' ⟨rfl, hb⟩; exact ⟨_, rfl, hb, rfl⟩)
  case refine_8 =>
    have v4 : vals 4 = .agg #[.int .i64 x, .slice A l.length c] := hd 4 (by kernel_rfl)
    have v6 : vals 6 = .int .i64 a := hd 6 (by kernel_rfl)
    rw [v4, v6]
    exact st_call rfl (by simp only [execOp]; first | (go_simp; done) | (go_simp; rfl)) (HC.out W hM.below) (by rintro e w' ⟨v, rfl, hS, hb⟩; exact ⟨_, rfl, hb, hS⟩)
  case refine_9 =>
    have v0 : vals 0 = .pointer (some ⟨gs, 0, none⟩) := hd 0 (by omega)
    rw [v0]
    simp only [List.drop_succ_cons, List.drop_zero]
    obtain ⟨A2, c2, e7, hc2, hI2⟩ : fStk (flagsI a) (pushL x l) (vals 7) W := hd 7 (by omega)
    rw [e7]
    have HO := hM
    have HX : (fun w' => IntsI w' A2 _) W := hI2
    clear hd hM hb0 hI2 e7
    go_wp2_with ((with_reducible refine gate ?_); refine own_storeX (T := 42) (vs := [.int .i64 _, .slice A2 _ c2]) HO HX rfl rfl rfl rfl (by first | exact .here | exact .there (.here) | exact .there (.there (.here)) | exact .there (.there (.there (.here)))) (IntsI.xs _ _) Tryz.sizeOf42 (put_st hs) rfl ?_; clear HO HX; intro wN HO HX; (try simp only [Act.put, List.setIfInBounds_toArray, List.set_cons_zero, List.set_cons_succ]))
    go_ret
    exact ⟨_, _, [], rfl, by rw [List.append_nil]; exact HO.less (.cons _ (.cons _ (.refl _))), rfl, rfl, A2, c2, rfl, hc2, HX⟩
set_option maxRecDepth 100000 in
set_option maxHeartbeats 8000000 in
theorem kept_pop (w : World) (m : Md) (s : List Int) (hs : s.length = 12) (x : Int) (A : Option Addr) (c : Nat) (l : List Int) (hl : l.length ≤ 100) (hc : l.length ≤ c) (hI : IntsI w A l) (sc : List Value) (k f : Int) (i dt : ByteArray) (qA : Option Addr) (qc : Nat) (rows : List (List Int)) (hqc : rows.length ≤ qc) (hqr : SeqAt w qA rows) (a : Int) (ha : argI rows 0 1 = a) :
    DeedX w (stS m s x (.slice A l.length c)) (.plain 58) (.agg sc.toArray) (.agg #[.int .i64 k, .int .u8 60, .slice qA rows.length qc, .string i, .int .u8 f, .string dt]) (fun v s' R W => v = .slice none 0 0 ∧ R = [] ∧ StkX m s (popL x l a).1 (popL x l a).2 s' W) := by
  intro gs bs v W hv HO
  obtain rfl : v = .func (.func 58) #[] #[] := hv
  refine ⟨_, _, rfl, enters_of Tryz.func58 (by kernel_rfl) rfl, ?_⟩
  rw [Array.append_empty]
  have HA := Lib.hid fun W (hW : Below w.heap.size w W) => arg_calls k 60 f i dt qA qc rows hqc 0 1 W (Kd.C_below hqr hW)
  rw [ha] at HA
  have HC := Lib.hid fun W (hW : Below w.heap.size w W) => pop_stk x a A c l W hl hc (hI.below hW)
  clear hqr hqc hI ha hl hc
  go_enter Tryz.func58, Tryz.ntmps58
  go_wp2_with (first
    | ((with_reducible refine gateAt (N := 4) rfl ?_); refine own_boxF (T := 34) (cs := sc) HO rfl rfl rfl ?_; clear HO; intro gf wN hggf HO; (try simp only [Act.put, List.setIfInBounds_toArray, List.set_cons_zero, List.set_cons_succ]))
    | ((with_reducible refine gateAt (N := 5) rfl ?_); refine own_boxF (T := 37) (cs := [.int .i64 k, .int .u8 60, .slice qA rows.length qc, .string i, .int .u8 f, .string dt]) HO rfl rfl rfl ?_; clear HO; intro gq wN hggq HO; (try simp only [Act.put, List.setIfInBounds_toArray, List.set_cons_zero, List.set_cons_succ]))
    | (first
      | ((with_reducible refine gate ?_); (first
      | ((refine own_load1 (T := 5) HO rfl rfl rfl (by first | exact .head _ | exact .tail _ (.head _) | exact .tail _ (.tail _ (.head _))) Tryz.isAgg5 rfl ?_); (try simp only [Act.put, List.setIfInBounds_toArray, List.set_cons_zero, List.set_cons_succ]))
      | ((refine own_store1 (T := 5) HO rfl rfl rfl (by first | exact .const | exact .tmp rfl | exact .func) (by rfl) (by first | exact .here | exact .there (.here) | exact .there (.there (.here))) Tryz.sizeOf5 (by repeat constructor) (by rfl) ?_); clear HO; intro wN HO; (try simp only [Act.put, List.setIfInBounds_toArray, List.set_cons_zero, List.set_cons_succ]))))))
  refine region_law 8 [fIs (.pointer (some ⟨gs, 0, none⟩)), fIs (.pointer (some ⟨gs, 0, none⟩)), fIs (.pointer (some ⟨gs, 0, none⟩)), fIs (.pointer (some ⟨gs, 22, none⟩)), fIs (.agg #[.int .i64 x, .slice A l.length c]), fIs (.agg #[.int .i64 k, .int .u8 60, .slice qA rows.length qc, .string i, .int .u8 f, .string dt]), fIs (.int .i64 a), fStk (popL x l a).1 (popL x l a).2] HO (by kernel_rfl) (by kernel_rfl) (by decide) (by kernel_rfl)
    (stays_cons (Stays.fIs _) (stays_cons (Stays.fIs _) (stays_cons (Stays.fIs _) (stays_cons (Stays.fIs _) (stays_cons (Stays.fIs _) (stays_cons (Stays.fIs _) (stays_cons (Stays.fIs _) (stays_cons (Stays.fStk _ _) stays_nil)))))))) ?_
  intro vals A hA
  simp [fillL, dstOf, List.range, List.range.loop, Act.put] at hA
  subst hA
  refine ⟨⟨?_, ?_, ?_, ?_, ?_, ?_, ?_, ?_, trivial⟩, ?_⟩
  all_goals intro W hd hM hb0
  case refine_1 =>
    skip
    exact st_val rfl (by simp only [execOp]; first | (go_simp; done) | (go_simp; rfl)) rfl
  case refine_2 =>
    skip
    exact st_val rfl (by simp only [execOp]; first | (go_simp; done) | (go_simp; rfl)) rfl
  case refine_3 =>
    have v1 : vals 1 = .pointer (some ⟨gs, 0, none⟩) := hd 1 (by kernel_rfl)
    rw [v1]
    exact st_val rfl (by simp only [execOp]; first | (go_simp; done) | (go_simp; rfl)) rfl
  case refine_4 =>
    have v2 : vals 2 = .pointer (some ⟨gs, 0, none⟩) := hd 2 (by kernel_rfl)
    rw [v2]
    exact st_val rfl (by simp only [execOp]; first | (go_simp; done) | (go_simp; rfl)) rfl
  case refine_5 =>
    have v3 : vals 3 = .pointer (some ⟨gs, 22, none⟩) := hd 3 (by kernel_rfl)
    rw [v3]
    exact st_load (vs := [.int .i64 x, .slice A l.length c]) hM rfl rfl rfl (.tail _ (.tail _ (.head _))) Tryz.isAgg42 Tryz.sizeOf42 (slc_st m s _ _ hs) rfl
  case refine_6 =>
    skip
    exact st_load hM rfl rfl rfl (.head _) Tryz.isAgg37 Tryz.sizeOf37 (by repeat constructor) rfl
  case refine_7 =>
    have v5 : vals 5 = .agg #[.int .i64 k, .int .u8 60, .slice qA rows.length qc, .string i, .int .u8 f, .string dt] := hd 5 (by kernel_rfl)
    rw [v5]
    exact st_call rfl (by simp only [execOp]; first | (go_simp; done) | (go_simp; rfl)) (HA.out W hM.below) (by rintro e w' ⟨rfl, hb⟩; exact ⟨_, rfl, hb, rfl⟩)
  case refine_8 =>
    have v4 : vals 4 = .agg #[.int .i64 x, .slice A l.length c] := hd 4 (by kernel_rfl)
    have v6 : vals 6 = .int .i64 a := hd 6 (by kernel_rfl)
    rw [v4, v6]
    exact st_call rfl (by simp only [execOp]; first | (go_simp; done) | (go_simp; rfl)) (HC.out W hM.below) (by rintro e w' ⟨v, rfl, hS, hb⟩; exact ⟨_, rfl, hb, hS⟩)
  case refine_9 =>
    have v0 : vals 0 = .pointer (some ⟨gs, 0, none⟩) := hd 0 (by omega)
    rw [v0]
    simp only [List.drop_succ_cons, List.drop_zero]
    obtain ⟨A2, c2, e7, hc2, hI2⟩ : fStk (popL x l a).1 (popL x l a).2 (vals 7) W := hd 7 (by omega)
    rw [e7]
    have HO := hM
    have HX : (fun w' => IntsI w' A2 _) W := hI2
    clear hd hM hb0 hI2 e7
    go_wp2_with ((with_reducible refine gate ?_); refine own_storeX (T := 42) (vs := [.int .i64 _, .slice A2 _ c2]) HO HX rfl rfl rfl rfl (by first | exact .here | exact .there (.here) | exact .there (.there (.here)) | exact .there (.there (.there (.here)))) (IntsI.xs _ _) Tryz.sizeOf42 (put_st hs) rfl ?_; clear HO HX; intro wN HO HX; (try simp only [Act.put, List.setIfInBounds_toArray, List.set_cons_zero, List.set_cons_succ]))
    go_ret
    exact ⟨_, _, [], rfl, by rw [List.append_nil]; exact HO.less (.cons _ (.cons _ (.refl _))), rfl, rfl, A2, c2, rfl, hc2, HX⟩
end Go.Proofs.YtdmifbffamckbaaGreatDoor
end
section
namespace Go.Proofs.YtdmifbffamckbaaGreatDoor
set_option linter.unusedVariables false
set_option linter.unusedSimpArgs false
open Go.RowKit Kit Go.Shelf Go.Proofs.YtdmifbffamckbaaGreatDoorW.PrintWords
namespace Kit
def Turn (vals : Nat → Value) (w w' : World) : List Fact → List Fact → Nat → Prop
  | [], [], _ => True
  | p :: fs, p' :: fs', o => (p (vals o) w → p' (vals o) w') ∧ Turn vals w w' fs fs' (o + 1)
  | _, _, _ => False
theorem Turn.all {vals : Nat → Value} {w w' : World} : ∀ {fs fs' : List Fact} {o : Nat}, Turn vals w w' fs fs' o → ∀ k, Facts fs k (vals (o + k)) w → Facts fs' k (vals (o + k)) w'
  | [], [], _, _, k, _ => by unfold Facts; simp [fAny]
  | p :: fs, p' :: fs', o, h, 0, hf => h.1 hf
  | p :: fs, p' :: fs', o, h, k + 1, hf => by
    have := Turn.all h.2 k (by rw [show o + 1 + k = o + (k + 1) by omega]; exact hf)
    rw [show o + 1 + k = o + (k + 1) by omega] at this
    exact this
  | [], _ :: _, _, h, _, _ => h.elim
  | _ :: _, [], _, h, _, _ => h.elim
section
variable {P : Program} {l : List Oper} {s i : Nat} {os o : Oper} {W0 w0 : World} {bs bs' : Res} {fs fs' : List Fact} {vals : Nat → Value} {A : Act}
theorem owesB (h1 : i ≠ s) (h2 : waits l.toArray os i = true) (h : ∀ w, (∀ j, waits l.toArray o j = true → Facts fs j (vals j) w) → Mine W0 w bs → Below w0.heap.size w0 w → StepOk P l.toArray o A w fun v w' => Below w.heap.size w w' ∧ Facts fs i v w') : Owes P l s os W0 w0 bs bs' fs fs' vals A i o := by
  unfold Owes; rw [if_neg h1, if_pos h2]; exact h
theorem owesA (h1 : i ≠ s) (h2 : waits l.toArray os i = false) (h : ∀ w, (∀ j, waits l.toArray o j = true → Facts fs j (vals j) w ∨ Facts fs' j (vals j) w) → StepOk P l.toArray o A w fun v w' => w' = w ∧ Facts fs i v w ∧ Facts fs' i v w) : Owes P l s os W0 w0 bs bs' fs fs' vals A i o := by
  unfold Owes; rw [if_neg h1, if_neg (by rw [h2]; decide)]; exact h
theorem owesS (h : ∀ w, (∀ j, waits l.toArray o j = true → Facts fs j (vals j) w) → Mine W0 w bs → Below w0.heap.size w0 w → StepOk P l.toArray o A w fun v w' => Mine W0 w' bs' ∧ Facts fs' s v w' ∧ ∀ j, j ≠ s → Facts fs j (vals j) w → Facts fs' j (vals j) w') : Owes P l s os W0 w0 bs bs' fs fs' vals A s o := by
  unfold Owes; rw [if_pos rfl]; exact h
theorem new_storedX {ops : Array Oper} {w : World} {B b s : Nat} {T : TypeId} {Z cs : List Value} {x y : Operand} (hM : Mine W0 w bs) (hlt : ∀ q ∈ bs, q.1 < B) (hW : W0.heap.size ≤ B)
    (hge : B ≤ b) (hb : w.heap[b]? = some (.cells Z.toArray T (0, 0))) (hg : Region.wanted o (yielded ops A.tmps) = true) (ho : o.op = .store T x y) (hx : A.eval x = .pointer (some ⟨b, 0, none⟩)) (hy : (A.eval y).cells = cs.toArray)
    (hsz : ∀ w, (sizeOf T).run P w = .ok cs.length w) (hp : PutAt Z 0 cs cs) (h1 : cs.all (·.oneCell') = true) (hs : ∀ v w, Facts fs' s v w)
    (ht : ∀ w', (∀ i, i ≠ b → w'.heap[i]? = w.heap[i]?) → w'.heap[b]? = some (.cells cs.toArray T (0, 0)) → Turn vals w w' fs fs' 0) :
    StepOk P ops o A w fun v w' => Mine W0 w' bs ∧ Facts fs' s v w' ∧ ∀ j, j ≠ s → Facts fs j (vals j) w → Facts fs' j (vals j) w' := by
  have hM2 := hM.take (p := IsCells Z T) hlt hW hge ⟨_, hb, rfl⟩
  have hu : ∀ (l : Res), Upd (l ++ [(b, IsCells Z T)]) b (IsCells Z T) (IsCells cs T) (l ++ [(b, IsCells cs T)]) := by
    intro l
    induction l with
    | nil => exact .here
    | cons x l ih => exact .there ih
  refine st_store (T := T) hM2 hg ho hx hy (hu bs) hsz hp h1 ?_
  intro w' hM3 _ hoth _
  have hblk := hM3.at (g := b) (cs := cs) (T := T) (List.mem_append_right _ (.head _))
  refine ⟨hM3.less (List.sublist_append_left _ _), hs _ _, fun j _ hf => ?_⟩
  have := (ht w' (fun i hi => hoth i (.inr hi)) hblk).all j (by rw [Nat.zero_add]; exact hf)
  rwa [Nat.zero_add] at this
end
end Kit
theorem IntsI.off {w w' : World} {p : Option Addr} {l : List Int} {b : Nat} {cs : Array Value} {E : TypeId} {fz : Nat × Nat} (h : IntsI w p l) (hE : E ≠ 3) (hb : w.heap[b]? = some (.cells cs E fz)) (hoth : ∀ i, i ≠ b → w'.heap[i]? = w.heap[i]?) : IntsI w' p l := by
  rcases h with h | ⟨g2, o, cs2, h1, h2, h3⟩
  · exact .inl h
  · refine .inr ⟨g2, o, cs2, h1, ?_, h3⟩
    rw [hoth g2 (fun e => ?_)]
    · exact h2
    · subst e
      rw [h2] at hb
      cases hb
      exact hE rfl
theorem StkX.len {m : Md} {s : List Int} (hs : s.length = 12) {x : Int} {l : List Int} {s' : List Value} {w : World} (h : StkX m s x l s' w) : s'.length = 24 ∧ s'.all (·.oneCell') = true := by
  obtain ⟨A, c, rfl, _, _⟩ := h
  exact ⟨stS_len hs, stS_one _ _ _ rfl⟩
theorem do_push (m : Md) (s : List Int) (hs : s.length = 12) (x : Int) (A : Option Addr) (c : Nat) (l : List Int) (hl : l.length ≤ 100) (hc : l.length ≤ c) (w : World) (hI : IntsI w A l) (qA : Option Addr) (y : Int) (hy : 0 ≤ y) (hqr : SeqAt w qA [[y]]) :
    Calls Tryz.prog 12 #[.agg (stS m s x (.slice A l.length c)).toArray, .agg #[.int .i64 0, .int .i64 0, .int .i64 0, .int .i64 0, .int .i64 0, .int .i64 0, .int .i64 0, .int .i64 0, .int .i64 0, .bool false, .bool false, .bool false, .bool false, .bool false, .bool false, .bool false, .int .i64 0, .int .i64 0, .int .i64 0], .agg #[.int .i64 1, .int .u8 62, .slice qA 1 1, .string ⟨#[]⟩, .int .u8 117, .string ⟨#[]⟩]] w fun e w' => ∃ A' c', e = .returned (.tuple #[.agg (stS m s (flagsI y) (.slice A' (pushL x l).length c')).toArray, .slice none 0 0, .bool true]) ∧ (pushL x l).length ≤ c' ∧ IntsI w' A' (pushL x l) ∧ Below w.heap.size w w' :=
  (do_someX (stS m s x (.slice A l.length c)) [.int .i64 0, .int .i64 0, .int .i64 0, .int .i64 0, .int .i64 0, .int .i64 0, .int .i64 0, .int .i64 0, .int .i64 0, .bool false, .bool false, .bool false, .bool false, .bool false, .bool false, .bool false, .int .i64 0, .int .i64 0, .int .i64 0] (stS_len hs) rfl 1 62 117 ⟨#[]⟩ ⟨#[]⟩ qA 1 1 ⟨rfl, rfl, by decide, rfl⟩ (.plain 58) rfl (fun h => absurd h.1 (by decide)) w _
    (fun v s' R => XS.andc (XS.andc (StkX.xs m s _ _ s'))) (fun v s' R W h => h.2.2.len hs)
    (kept_push w m s hs x A c l hl hc hI [.int .i64 0, .int .i64 0, .int .i64 0, .int .i64 0, .int .i64 0, .int .i64 0, .int .i64 0, .int .i64 0, .int .i64 0, .bool false, .bool false, .bool false, .bool false, .bool false, .bool false, .bool false, .int .i64 0, .int .i64 0, .int .i64 0] 1 117 ⟨#[]⟩ ⟨#[]⟩ qA 1 [[y]] (Nat.le_refl _) hqr y (by simp [argI, numOf]; omega))).mono fun e w' ⟨v, st', R, h1, h2, h3, h4, A', c', h5, h6, h7⟩ => ⟨A', c', by rw [h1, h3, h5], h6, h7, h2.below⟩
theorem do_pop (m : Md) (s : List Int) (hs : s.length = 12) (x : Int) (A : Option Addr) (c : Nat) (l : List Int) (hl : l.length ≤ 100) (hc : l.length ≤ c) (w : World) (hI : IntsI w A l) (qA : Option Addr) (y : Int) (hy : 0 ≤ y) (hqr : SeqAt w qA [[y]]) :
    Calls Tryz.prog 12 #[.agg (stS m s x (.slice A l.length c)).toArray, .agg #[.int .i64 0, .int .i64 0, .int .i64 0, .int .i64 0, .int .i64 0, .int .i64 0, .int .i64 0, .int .i64 0, .int .i64 0, .bool false, .bool false, .bool false, .bool false, .bool false, .bool false, .bool false, .int .i64 0, .int .i64 0, .int .i64 0], .agg #[.int .i64 1, .int .u8 60, .slice qA 1 1, .string ⟨#[]⟩, .int .u8 117, .string ⟨#[]⟩]] w fun e w' => ∃ A' c', e = .returned (.tuple #[.agg (stS m s (popL x l y).1 (.slice A' (popL x l y).2.length c')).toArray, .slice none 0 0, .bool true]) ∧ (popL x l y).2.length ≤ c' ∧ IntsI w' A' (popL x l y).2 ∧ Below w.heap.size w w' :=
  (do_someX (stS m s x (.slice A l.length c)) [.int .i64 0, .int .i64 0, .int .i64 0, .int .i64 0, .int .i64 0, .int .i64 0, .int .i64 0, .int .i64 0, .int .i64 0, .bool false, .bool false, .bool false, .bool false, .bool false, .bool false, .bool false, .int .i64 0, .int .i64 0, .int .i64 0] (stS_len hs) rfl 1 60 117 ⟨#[]⟩ ⟨#[]⟩ qA 1 1 ⟨rfl, rfl, by decide, rfl⟩ (.plain 58) rfl (fun h => absurd h.1 (by decide)) w _
    (fun v s' R => XS.andc (XS.andc (StkX.xs m s _ _ s'))) (fun v s' R W h => h.2.2.len hs)
    (kept_pop w m s hs x A c l hl hc hI [.int .i64 0, .int .i64 0, .int .i64 0, .int .i64 0, .int .i64 0, .int .i64 0, .int .i64 0, .int .i64 0, .int .i64 0, .bool false, .bool false, .bool false, .bool false, .bool false, .bool false, .bool false, .int .i64 0, .int .i64 0, .int .i64 0] 1 117 ⟨#[]⟩ ⟨#[]⟩ qA 1 [[y]] (Nat.le_refl _) hqr y (by simp [argI, numOf]; omega))).mono fun e w' ⟨v, st', R, h1, h2, h3, h4, A', c', h5, h6, h7⟩ => ⟨A', c', by rw [h1, h3, h5], h6, h7, h2.below⟩
theorem do_ask (m : Md) (s : List Int) (hs : s.length = 12) (x : Int) (A : Option Addr) (n c : Nat) (w : World) :
    Calls Tryz.prog 12 #[.agg (stS m s x (.slice A n c)).toArray, .agg #[.int .i64 0, .int .i64 0, .int .i64 0, .int .i64 0, .int .i64 0, .int .i64 0, .int .i64 0, .int .i64 0, .int .i64 0, .bool false, .bool false, .bool false, .bool false, .bool false, .bool false, .bool false, .int .i64 0, .int .i64 0, .int .i64 0], .agg #[.int .i64 1, .int .u8 63, .slice none 0 0, .string ⟨#[]⟩, .int .u8 117, .string ⟨#[]⟩]] w fun e w' => ∃ v R, e = .returned (.tuple #[.agg (stS m s x (.slice A n c)).toArray, v, .bool true]) ∧ Mine w w' R ∧ AnsX ⟨1, 63, [[flagsI x]], ⟨#[]⟩, 117, ⟨#[]⟩⟩ v R w' :=
  (do_someX (stS m s x (.slice A n c)) [.int .i64 0, .int .i64 0, .int .i64 0, .int .i64 0, .int .i64 0, .int .i64 0, .int .i64 0, .int .i64 0, .int .i64 0, .bool false, .bool false, .bool false, .bool false, .bool false, .bool false, .bool false, .int .i64 0, .int .i64 0, .int .i64 0] (stS_len hs) rfl 1 63 117 ⟨#[]⟩ ⟨#[]⟩ none 0 0 ⟨rfl, rfl, by decide, rfl⟩ (.plain 57) rfl (fun h => absurd h.1 (by decide)) w _
    (fun v s' R => XS.andc (AnsX.xs _ v R)) (fun v s' R W h => by rw [h.1]; exact ⟨stS_len hs, stS_one _ _ _ rfl⟩)
    (flags_ok w m s hs x (.slice A n c) [.int .i64 0, .int .i64 0, .int .i64 0, .int .i64 0, .int .i64 0, .int .i64 0, .int .i64 0, .int .i64 0, .int .i64 0, .bool false, .bool false, .bool false, .bool false, .bool false, .bool false, .bool false, .int .i64 0, .int .i64 0, .int .i64 0] 1 63 117 ⟨#[]⟩ ⟨#[]⟩ none 0 0)).mono fun e w' ⟨v, st', R, h1, h2, h3, h4⟩ => ⟨v, R, by rw [h1, h3], h2, h4⟩
end Go.Proofs.YtdmifbffamckbaaGreatDoor
end
section
namespace Go.Proofs.YtdmifbffamckbaaGreatDoor.G
open Go.RowKit Go.Proofs.YtdmifbffamckbaaGreatDoorW.PrintWords Go.Proofs.YtdmifbffamckbaaGreatDoorW.PrintLast Go.Proofs.YtdmifbffamckbaaGreatDoorW.PrintMore
attribute [local go_sem] max2_int min2_int max_two min_two max_three min_three max_four min_four
set_option linter.unusedVariables false
set_option linter.unusedSimpArgs false
def clavierref03_Arg.f (a0_0 : Int) (a0_1 : Int) (l0_2 : List (List Int)) (a0_3 : ByteArray) (a0_4 : Int) (a0_5 : ByteArray) (a1 : Int) (a2 : Int) : Option (Int) := if a1 < 0 then (some a2) else (if a1 ≥ (l0_2.length : Int) then (some a2) else (if 0 ≤ a1 then (if a1 < (l0_2.length : Int) then (if ((rd_L1 l0_2 a1).length : Int) = 0 then (some a2) else (if 0 < ((rd_L1 l0_2 a1).length : Int) then (if (rd (rd_L1 l0_2 a1) 0) < 0 then (some a2) else (some (rd (rd_L1 l0_2 a1) 0))) else (none))) else (none)) else (none)))
set_option maxHeartbeats 8000000 in
set_option maxRecDepth 100000 in
theorem clavierref03_Arg.calls (a0_0 : Int) (a0_1 : Int) (A0_2 : Option Addr) (c0_2 : Nat) (l0_2 : List (List Int)) (a0_3 : ByteArray) (a0_4 : Int) (a0_5 : ByteArray) (a1 : Int) (a2 : Int) (r : Int) (w : World) (hr0_2 : Kd.C (Kd.slice 3 (Kd.int .i64)) w A0_2 l0_2.length l0_2) (hc0_2 : l0_2.length ≤ c0_2) (h : clavierref03_Arg.f a0_0 a0_1 l0_2 a0_3 a0_4 a0_5 a1 a2 = some r) :
    Calls Tryz.prog 21 #[.agg #[.int .i64 a0_0, .int .u8 a0_1, .slice A0_2 l0_2.length c0_2, .string a0_3, .int .u8 a0_4, .string a0_5], .int .i64 a1, .int .i64 a2] w fun e w' => e = .returned (.int .i64 r) ∧ Below w.heap.size w w' := by
  have hu37 := Tryz.underlying37
  have HR0_2 := Aside0.mk hr0_2
  have HC0_2 := Aside0.mk hc0_2
  clear hr0_2 hc0_2
  have HB := Aside0.mk (Below.refl w.heap.size w)
  have H : (if a1 < 0 then (some a2) else (if a1 ≥ (l0_2.length : Int) then (some a2) else (if 0 ≤ a1 then (if a1 < (l0_2.length : Int) then (if ((rd_L1 l0_2 a1).length : Int) = 0 then (some a2) else (if 0 < ((rd_L1 l0_2 a1).length : Int) then (if (rd (rd_L1 l0_2 a1) 0) < 0 then (some a2) else (some (rd (rd_L1 l0_2 a1) 0))) else (none))) else (none)) else (none)))) = some r := h
  clear h
  by_cases c4 : a1 < 0
  · rw [if_pos c4] at H
    have c4b0 : decide (a1 < 0) = true := decide_eq_true c4
    clear c4
    obtain rfl := Option.some.inj H
    go_enter Tryz.func21, Tryz.ntmps21
    go_wp2_with (first | ((with_reducible refine gate_dst (N := 3) rfl ?_); (try (refine gate_guard (by rfl) ?_; dsimp only)); refine box_event ?hg (N := 3) ?hd (cs := #[.int .i64 a0_0, .int .u8 a0_1, .slice A0_2 l0_2.length c0_2, .string a0_3, .int .u8 a0_4, .string a0_5]) (t := 37) ?hr ?_; (case hd => rfl); (case hg => rfl); (case hr => first | (go_simp; done) | (go_simp; rfl)); intro gb234 hg w5 hbox hb; have n0_ := Aside0.mk (below_step (by repeat (first | (with_reducible first | exact HB.out | apply below_alloc | apply pw_below_drewN | apply below_drew1) | exact HB.out)) hb); have n1_ := Aside0.mk (hbox); have n2_ := Aside0.mk ((by rw [hg]; exact (below_size (by repeat (first | (with_reducible first | exact HB.out | apply below_alloc | apply pw_below_drewN | apply below_drew1) | exact HB.out))) : w.heap.size ≤ gb234)); have n3_ := Aside0.mk ((by rw [hg]; exact (below_size (by repeat (first | (with_reducible first | exact HB.out | apply below_alloc | apply pw_below_drewN | apply below_drew1) | exact HB.out))) : w.heap.size ≤ gb234)); clear HB; have HB := n0_; have BK234 := n1_; have GW234 := n2_; have GE234 := n3_; clear n0_ n1_ n2_ n3_; clear hb hbox hg))
    go_ret
    exact ⟨by first | rfl | (simp [errW_none, errW_some] <;> rfl) | (simp [*, errW_none, errW_some] <;> rfl), by repeat (first | (with_reducible first | exact HB.out | apply below_alloc | apply pw_below_drewN | apply below_drew1 | refine below_set ?_ GE234.out) | exact HB.out)⟩
  · rw [if_neg c4] at H
    have c4b0 : decide (a1 < 0) = false := decide_eq_false c4
    clear c4
    by_cases c6 : a1 ≥ (l0_2.length : Int)
    · rw [if_pos c6] at H
      have c6b0 : decide ((l0_2.length : Int) ≤ a1) = true := decide_eq_true c6
      clear c6
      obtain rfl := Option.some.inj H
      go_enter Tryz.func21, Tryz.ntmps21
      go_wp2_with (first | ((with_reducible refine gate_dst (N := 3) rfl ?_); (try (refine gate_guard (by rfl) ?_; dsimp only)); refine box_event ?hg (N := 3) ?hd (cs := #[.int .i64 a0_0, .int .u8 a0_1, .slice A0_2 l0_2.length c0_2, .string a0_3, .int .u8 a0_4, .string a0_5]) (t := 37) ?hr ?_; (case hd => rfl); (case hg => rfl); (case hr => first | (go_simp; done) | (go_simp; rfl)); intro gb234 hg w7 hbox hb; have n0_ := Aside0.mk (below_step (by repeat (first | (with_reducible first | exact HB.out | apply below_alloc | apply pw_below_drewN | apply below_drew1) | exact HB.out)) hb); have n1_ := Aside0.mk (hbox); have n2_ := Aside0.mk ((by rw [hg]; exact (below_size (by repeat (first | (with_reducible first | exact HB.out | apply below_alloc | apply pw_below_drewN | apply below_drew1) | exact HB.out))) : w.heap.size ≤ gb234)); have n3_ := Aside0.mk ((by rw [hg]; exact (below_size (by repeat (first | (with_reducible first | exact HB.out | apply below_alloc | apply pw_below_drewN | apply below_drew1) | exact HB.out))) : w.heap.size ≤ gb234)); clear HB; have HB := n0_; have BK234 := n1_; have GW234 := n2_; have GE234 := n3_; clear n0_ n1_ n2_ n3_; clear hb hbox hg; have hcz8_0 : w7.cell? ⟨gb234, 0, none⟩ = some (.int .i64 a0_0) := (blk_cell BK234.out 0).trans rfl; have hcz8_1 : w7.cell? ⟨gb234, 1, none⟩ = some (.int .u8 a0_1) := (blk_cell BK234.out 1).trans rfl; have hcz8_2 : w7.cell? ⟨gb234, 2, none⟩ = some (.slice A0_2 l0_2.length c0_2) := (blk_cell BK234.out 2).trans rfl; have hcz8_3 : w7.cell? ⟨gb234, 3, none⟩ = some (.string a0_3) := (blk_cell BK234.out 3).trans rfl; have hcz8_4 : w7.cell? ⟨gb234, 4, none⟩ = some (.int .u8 a0_4) := (blk_cell BK234.out 4).trans rfl; have hcz8_5 : w7.cell? ⟨gb234, 5, none⟩ = some (.string a0_5) := (blk_cell BK234.out 5).trans rfl; have hfz8_0 := blk_frozen BK234.out 0; have hfz8_1 := blk_frozen BK234.out 1; have hfz8_2 := blk_frozen BK234.out 2; have hfz8_3 := blk_frozen BK234.out 3; have hfz8_4 := blk_frozen BK234.out 4; have hfz8_5 := blk_frozen BK234.out 5))
      go_ret
      exact ⟨by first | rfl | (simp [errW_none, errW_some] <;> rfl) | (simp [*, errW_none, errW_some] <;> rfl), by repeat (first | (with_reducible first | exact HB.out | apply below_alloc | apply pw_below_drewN | apply below_drew1 | refine below_set ?_ GE234.out) | exact HB.out)⟩
    · rw [if_neg c6] at H
      have c6b0 : decide ((l0_2.length : Int) ≤ a1) = false := decide_eq_false c6
      clear c6
      by_cases c9 : 0 ≤ a1
      · rw [if_pos c9] at H
        have c9b0 : decide (0 ≤ a1) = true := decide_eq_true c9
        clear c9
        by_cases c10 : a1 < (l0_2.length : Int)
        · rw [if_pos c10] at H
          have c10b0 : decide (a1 < (l0_2.length : Int)) = true := decide_eq_true c10
          clear c10
          by_cases c11 : ((rd_L1 l0_2 a1).length : Int) = 0
          · rw [if_pos c11] at H
            have c11b0 : (((rd_L1 l0_2 a1).length : Int) == 0) = true := beq_iff_eq.mpr c11
            have c11b1 : (((rd_L1 l0_2 a1).length : Int) != 0) = false := bne_eq_false_iff_eq.mpr c11
            clear c11
            obtain rfl := Option.some.inj H
            go_enter Tryz.func21, Tryz.ntmps21
            go_wp2_with (first | ((with_reducible refine gate_dst (N := 3) rfl ?_); (try (refine gate_guard (by rfl) ?_; dsimp only)); refine box_event ?hg (N := 3) ?hd (cs := #[.int .i64 a0_0, .int .u8 a0_1, .slice A0_2 l0_2.length c0_2, .string a0_3, .int .u8 a0_4, .string a0_5]) (t := 37) ?hr ?_; (case hd => rfl); (case hg => rfl); (case hr => first | (go_simp; done) | (go_simp; rfl)); intro gb234 hg w12 hbox hb; have n0_ := Aside0.mk (below_step (by repeat (first | (with_reducible first | exact HB.out | apply below_alloc | apply pw_below_drewN | apply below_drew1) | exact HB.out)) hb); have n1_ := Aside0.mk (hbox); have n2_ := Aside0.mk ((by rw [hg]; exact (below_size (by repeat (first | (with_reducible first | exact HB.out | apply below_alloc | apply pw_below_drewN | apply below_drew1) | exact HB.out))) : w.heap.size ≤ gb234)); have n3_ := Aside0.mk ((by rw [hg]; exact (below_size (by repeat (first | (with_reducible first | exact HB.out | apply below_alloc | apply pw_below_drewN | apply below_drew1) | exact HB.out))) : w.heap.size ≤ gb234)); clear HB; have HB := n0_; have BK234 := n1_; have GW234 := n2_; have GE234 := n3_; clear n0_ n1_ n2_ n3_; clear hb hbox hg; have hcz13_0 : w12.cell? ⟨gb234, 0, none⟩ = some (.int .i64 a0_0) := (blk_cell BK234.out 0).trans rfl; have hcz13_1 : w12.cell? ⟨gb234, 1, none⟩ = some (.int .u8 a0_1) := (blk_cell BK234.out 1).trans rfl; have hcz13_2 : w12.cell? ⟨gb234, 2, none⟩ = some (.slice A0_2 l0_2.length c0_2) := (blk_cell BK234.out 2).trans rfl; have hcz13_3 : w12.cell? ⟨gb234, 3, none⟩ = some (.string a0_3) := (blk_cell BK234.out 3).trans rfl; have hcz13_4 : w12.cell? ⟨gb234, 4, none⟩ = some (.int .u8 a0_4) := (blk_cell BK234.out 4).trans rfl; have hcz13_5 : w12.cell? ⟨gb234, 5, none⟩ = some (.string a0_5) := (blk_cell BK234.out 5).trans rfl; have hfz13_0 := blk_frozen BK234.out 0; have hfz13_1 := blk_frozen BK234.out 1; have hfz13_2 := blk_frozen BK234.out 2; have hfz13_3 := blk_frozen BK234.out 3; have hfz13_4 := blk_frozen BK234.out 4; have hfz13_5 := blk_frozen BK234.out 5; have p235 : 0 ≤ (a1 : Int) := of_decide_eq_true (by first | (with_reducible assumption) | assumption); have q235 : a1 < (l0_2.length : Int) := of_decide_eq_true (by first | (with_reducible assumption) | assumption); obtain ⟨ad235, A235_0, c235_0, e235, hx235_0, hl235_0, hi235_0⟩ := at_L1 HR0_2.out a1 p235 q235; cases e235; replace hx235_0 := (HB.out.cell (World.block_lt_of_cell? w _ hx235_0)).trans hx235_0; have HR235_0 := Aside0.mk hi235_0; have HC235_0 := Aside0.mk hl235_0; clear hi235_0 hl235_0; replace p235 := eq_true p235; replace q235 := eq_true q235))
            go_ret
            exact ⟨by first | rfl | (simp [errW_none, errW_some] <;> rfl) | (simp [*, errW_none, errW_some] <;> rfl), by repeat (first | (with_reducible first | exact HB.out | apply below_alloc | apply pw_below_drewN | apply below_drew1 | refine below_set ?_ GE234.out) | exact HB.out)⟩
          · rw [if_neg c11] at H
            have c11b0 : (((rd_L1 l0_2 a1).length : Int) == 0) = false := beq_eq_false_iff_ne.mpr c11
            have c11b1 : (((rd_L1 l0_2 a1).length : Int) != 0) = true := bne_iff_ne.mpr c11
            have c11b2 : ¬ ((rd_L1 l0_2 a1) = []) := fun h_ => c11 (by rw [h_]; rfl)
            by_cases c14 : 0 < ((rd_L1 l0_2 a1).length : Int)
            · rw [if_pos c14] at H
              have c14b0 : decide (0 < ((rd_L1 l0_2 a1).length : Int)) = true := decide_eq_true c14
              have c14b1 : decide (0 < (rd_L1 l0_2 a1).length) = true := decide_eq_true (by omega)
              clear c14
              by_cases c15 : (rd (rd_L1 l0_2 a1) 0) < 0
              · rw [if_pos c15] at H
                have c15b0 : decide ((rd (rd_L1 l0_2 a1) 0) < 0) = true := decide_eq_true c15
                clear c15
                obtain rfl := Option.some.inj H
                go_enter Tryz.func21, Tryz.ntmps21
                go_wp2_with (first | ((with_reducible refine gate_dst (N := 3) rfl ?_); (try (refine gate_guard (by rfl) ?_; dsimp only)); refine box_event ?hg (N := 3) ?hd (cs := #[.int .i64 a0_0, .int .u8 a0_1, .slice A0_2 l0_2.length c0_2, .string a0_3, .int .u8 a0_4, .string a0_5]) (t := 37) ?hr ?_; (case hd => rfl); (case hg => rfl); (case hr => first | (go_simp; done) | (go_simp; rfl)); intro gb234 hg w16 hbox hb; have n0_ := Aside0.mk (below_step (by repeat (first | (with_reducible first | exact HB.out | apply below_alloc | apply pw_below_drewN | apply below_drew1) | exact HB.out)) hb); have n1_ := Aside0.mk (hbox); have n2_ := Aside0.mk ((by rw [hg]; exact (below_size (by repeat (first | (with_reducible first | exact HB.out | apply below_alloc | apply pw_below_drewN | apply below_drew1) | exact HB.out))) : w.heap.size ≤ gb234)); have n3_ := Aside0.mk ((by rw [hg]; exact (below_size (by repeat (first | (with_reducible first | exact HB.out | apply below_alloc | apply pw_below_drewN | apply below_drew1) | exact HB.out))) : w.heap.size ≤ gb234)); clear HB; have HB := n0_; have BK234 := n1_; have GW234 := n2_; have GE234 := n3_; clear n0_ n1_ n2_ n3_; clear hb hbox hg; have hcz17_0 : w16.cell? ⟨gb234, 0, none⟩ = some (.int .i64 a0_0) := (blk_cell BK234.out 0).trans rfl; have hcz17_1 : w16.cell? ⟨gb234, 1, none⟩ = some (.int .u8 a0_1) := (blk_cell BK234.out 1).trans rfl; have hcz17_2 : w16.cell? ⟨gb234, 2, none⟩ = some (.slice A0_2 l0_2.length c0_2) := (blk_cell BK234.out 2).trans rfl; have hcz17_3 : w16.cell? ⟨gb234, 3, none⟩ = some (.string a0_3) := (blk_cell BK234.out 3).trans rfl; have hcz17_4 : w16.cell? ⟨gb234, 4, none⟩ = some (.int .u8 a0_4) := (blk_cell BK234.out 4).trans rfl; have hcz17_5 : w16.cell? ⟨gb234, 5, none⟩ = some (.string a0_5) := (blk_cell BK234.out 5).trans rfl; have hfz17_0 := blk_frozen BK234.out 0; have hfz17_1 := blk_frozen BK234.out 1; have hfz17_2 := blk_frozen BK234.out 2; have hfz17_3 := blk_frozen BK234.out 3; have hfz17_4 := blk_frozen BK234.out 4; have hfz17_5 := blk_frozen BK234.out 5; have p235 : 0 ≤ (a1 : Int) := of_decide_eq_true (by first | (with_reducible assumption) | assumption); have q235 : a1 < (l0_2.length : Int) := of_decide_eq_true (by first | (with_reducible assumption) | assumption); obtain ⟨ad235, A235_0, c235_0, e235, hx235_0, hl235_0, hi235_0⟩ := at_L1 HR0_2.out a1 p235 q235; cases e235; replace hx235_0 := (HB.out.cell (World.block_lt_of_cell? w _ hx235_0)).trans hx235_0; have HR235_0 := Aside0.mk hi235_0; have HC235_0 := Aside0.mk hl235_0; clear hi235_0 hl235_0; replace p235 := eq_true p235; replace q235 := eq_true q235; have p236 : 0 ≤ (a1 : Int) := of_decide_eq_true (by first | (with_reducible assumption) | assumption); have q236 : a1 < (l0_2.length : Int) := of_decide_eq_true (by first | (with_reducible assumption) | assumption); obtain ⟨ad236, A236_0, c236_0, e236, hx236_0, hl236_0, hi236_0⟩ := at_L1 HR0_2.out a1 p236 q236; obtain rfl : ad235 = ad236 := (by injection e236); replace hx236_0 := (HB.out.cell (World.block_lt_of_cell? w _ hx236_0)).trans hx236_0; have HR236_0 := Aside0.mk hi236_0; have HC236_0 := Aside0.mk hl236_0; clear hi236_0 hl236_0; replace p236 := eq_true p236; replace q236 := eq_true q236; have ea_ := Option.some.inj (hx235_0.symm.trans hx236_0); injection ea_ with ea_ en_ ec_; subst ea_; subst ec_; clear en_; have p237 : 0 ≤ (0 : Int) := (by omega); have q237 : 0 < ((rd_L1 l0_2 a1).length : Int) := of_decide_eq_true (by first | (with_reducible assumption) | assumption); obtain ⟨ad237, e237, hx237_0⟩ := Kd.at_int HR236_0.out 0 p237 q237; cases e237; have qi237 : (0 < (rd_L1 l0_2 a1).length) = True := eq_true (by omega); (try rw [show ((0 : Int)).toNat = 0 from rfl] at hx237_0); (try rw [Addr.add_zero'] at hx237_0); replace hx237_0 := (HB.out.cell (World.block_lt_of_cell? w _ hx237_0)).trans hx237_0; replace p237 := eq_true p237; replace q237 := eq_true q237))
                go_ret
                exact ⟨by first | rfl | (simp [errW_none, errW_some] <;> rfl) | (simp [*, errW_none, errW_some] <;> rfl), by repeat (first | (with_reducible first | exact HB.out | apply below_alloc | apply pw_below_drewN | apply below_drew1 | refine below_set ?_ GE234.out) | exact HB.out)⟩
              · rw [if_neg c15] at H
                have c15b0 : decide ((rd (rd_L1 l0_2 a1) 0) < 0) = false := decide_eq_false c15
                clear c15
                obtain rfl := Option.some.inj H
                go_enter Tryz.func21, Tryz.ntmps21
                go_wp2_with (first | ((with_reducible refine gate_dst (N := 3) rfl ?_); (try (refine gate_guard (by rfl) ?_; dsimp only)); refine box_event ?hg (N := 3) ?hd (cs := #[.int .i64 a0_0, .int .u8 a0_1, .slice A0_2 l0_2.length c0_2, .string a0_3, .int .u8 a0_4, .string a0_5]) (t := 37) ?hr ?_; (case hd => rfl); (case hg => rfl); (case hr => first | (go_simp; done) | (go_simp; rfl)); intro gb234 hg w18 hbox hb; have n0_ := Aside0.mk (below_step (by repeat (first | (with_reducible first | exact HB.out | apply below_alloc | apply pw_below_drewN | apply below_drew1) | exact HB.out)) hb); have n1_ := Aside0.mk (hbox); have n2_ := Aside0.mk ((by rw [hg]; exact (below_size (by repeat (first | (with_reducible first | exact HB.out | apply below_alloc | apply pw_below_drewN | apply below_drew1) | exact HB.out))) : w.heap.size ≤ gb234)); have n3_ := Aside0.mk ((by rw [hg]; exact (below_size (by repeat (first | (with_reducible first | exact HB.out | apply below_alloc | apply pw_below_drewN | apply below_drew1) | exact HB.out))) : w.heap.size ≤ gb234)); clear HB; have HB := n0_; have BK234 := n1_; have GW234 := n2_; have GE234 := n3_; clear n0_ n1_ n2_ n3_; clear hb hbox hg; have hcz19_0 : w18.cell? ⟨gb234, 0, none⟩ = some (.int .i64 a0_0) := (blk_cell BK234.out 0).trans rfl; have hcz19_1 : w18.cell? ⟨gb234, 1, none⟩ = some (.int .u8 a0_1) := (blk_cell BK234.out 1).trans rfl; have hcz19_2 : w18.cell? ⟨gb234, 2, none⟩ = some (.slice A0_2 l0_2.length c0_2) := (blk_cell BK234.out 2).trans rfl; have hcz19_3 : w18.cell? ⟨gb234, 3, none⟩ = some (.string a0_3) := (blk_cell BK234.out 3).trans rfl; have hcz19_4 : w18.cell? ⟨gb234, 4, none⟩ = some (.int .u8 a0_4) := (blk_cell BK234.out 4).trans rfl; have hcz19_5 : w18.cell? ⟨gb234, 5, none⟩ = some (.string a0_5) := (blk_cell BK234.out 5).trans rfl; have hfz19_0 := blk_frozen BK234.out 0; have hfz19_1 := blk_frozen BK234.out 1; have hfz19_2 := blk_frozen BK234.out 2; have hfz19_3 := blk_frozen BK234.out 3; have hfz19_4 := blk_frozen BK234.out 4; have hfz19_5 := blk_frozen BK234.out 5; have p235 : 0 ≤ (a1 : Int) := of_decide_eq_true (by first | (with_reducible assumption) | assumption); have q235 : a1 < (l0_2.length : Int) := of_decide_eq_true (by first | (with_reducible assumption) | assumption); obtain ⟨ad235, A235_0, c235_0, e235, hx235_0, hl235_0, hi235_0⟩ := at_L1 HR0_2.out a1 p235 q235; cases e235; replace hx235_0 := (HB.out.cell (World.block_lt_of_cell? w _ hx235_0)).trans hx235_0; have HR235_0 := Aside0.mk hi235_0; have HC235_0 := Aside0.mk hl235_0; clear hi235_0 hl235_0; replace p235 := eq_true p235; replace q235 := eq_true q235; have p236 : 0 ≤ (a1 : Int) := of_decide_eq_true (by first | (with_reducible assumption) | assumption); have q236 : a1 < (l0_2.length : Int) := of_decide_eq_true (by first | (with_reducible assumption) | assumption); obtain ⟨ad236, A236_0, c236_0, e236, hx236_0, hl236_0, hi236_0⟩ := at_L1 HR0_2.out a1 p236 q236; obtain rfl : ad235 = ad236 := (by injection e236); replace hx236_0 := (HB.out.cell (World.block_lt_of_cell? w _ hx236_0)).trans hx236_0; have HR236_0 := Aside0.mk hi236_0; have HC236_0 := Aside0.mk hl236_0; clear hi236_0 hl236_0; replace p236 := eq_true p236; replace q236 := eq_true q236; have ea_ := Option.some.inj (hx235_0.symm.trans hx236_0); injection ea_ with ea_ en_ ec_; subst ea_; subst ec_; clear en_; have p237 : 0 ≤ (0 : Int) := (by omega); have q237 : 0 < ((rd_L1 l0_2 a1).length : Int) := of_decide_eq_true (by first | (with_reducible assumption) | assumption); obtain ⟨ad237, e237, hx237_0⟩ := Kd.at_int HR236_0.out 0 p237 q237; cases e237; have qi237 : (0 < (rd_L1 l0_2 a1).length) = True := eq_true (by omega); (try rw [show ((0 : Int)).toNat = 0 from rfl] at hx237_0); (try rw [Addr.add_zero'] at hx237_0); replace hx237_0 := (HB.out.cell (World.block_lt_of_cell? w _ hx237_0)).trans hx237_0; replace p237 := eq_true p237; replace q237 := eq_true q237; have p238 : 0 ≤ (a1 : Int) := of_decide_eq_true (by first | (with_reducible assumption) | assumption); have q238 : a1 < (l0_2.length : Int) := of_decide_eq_true (by first | (with_reducible assumption) | assumption); obtain ⟨ad238, A238_0, c238_0, e238, hx238_0, hl238_0, hi238_0⟩ := at_L1 HR0_2.out a1 p238 q238; obtain rfl : ad235 = ad238 := (by injection e238); replace hx238_0 := (HB.out.cell (World.block_lt_of_cell? w _ hx238_0)).trans hx238_0; have HR238_0 := Aside0.mk hi238_0; have HC238_0 := Aside0.mk hl238_0; clear hi238_0 hl238_0; replace p238 := eq_true p238; replace q238 := eq_true q238; have ea_ := Option.some.inj (hx235_0.symm.trans hx238_0); injection ea_ with ea_ en_ ec_; subst ea_; subst ec_; clear en_; have p239 : 0 ≤ (0 : Int) := (by omega); have q239 : 0 < ((rd_L1 l0_2 a1).length : Int) := of_decide_eq_true (by first | (with_reducible assumption) | assumption); obtain ⟨ad239, e239, hx239_0⟩ := Kd.at_int HR238_0.out 0 p239 q239; cases e239; have qi239 : (0 < (rd_L1 l0_2 a1).length) = True := eq_true (by omega); (try rw [show ((0 : Int)).toNat = 0 from rfl] at hx239_0); (try rw [Addr.add_zero'] at hx239_0); replace hx239_0 := (HB.out.cell (World.block_lt_of_cell? w _ hx239_0)).trans hx239_0; replace p239 := eq_true p239; replace q239 := eq_true q239))
                go_ret
                exact ⟨by first | rfl | (simp [errW_none, errW_some] <;> rfl) | (simp [*, errW_none, errW_some] <;> rfl), by repeat (first | (with_reducible first | exact HB.out | apply below_alloc | apply pw_below_drewN | apply below_drew1 | refine below_set ?_ GE234.out) | exact HB.out)⟩
            · rw [if_neg c14] at H
              exact absurd H (by simp)
        · rw [if_neg c10] at H
          exact absurd H (by simp)
      · rw [if_neg c9] at H
        exact absurd H (by simp)
end Go.Proofs.YtdmifbffamckbaaGreatDoor.G
end
section
namespace Go.Proofs.YtdmifbffamckbaaGreatDoor
set_option linter.unusedVariables false
set_option linter.unusedSimpArgs false
open Go.RowKit Kit Go.Shelf Go.Proofs.YtdmifbffamckbaaGreatDoorW.PrintWords
def fRows1 (y : Int) : Fact := fun v w => ∃ g1 g2, v = .slice (some ⟨g2, 0, none⟩) 1 1 ∧ w.heap[g2]? = some (.cells [Value.slice (some ⟨g1, 0, none⟩) 1 1].toArray 26 (0, 0)) ∧ w.heap[g1]? = some (.cells [Value.int .i64 y].toArray 3 (0, 0))
theorem Stays.fRows1 (y : Int) : Stays (fRows1 y) := fun v w w' ⟨g1, g2, h1, h2, h3⟩ hb => ⟨g1, g2, h1, (hb.block g2 (lt_of_get h2)).trans h2, (hb.block g1 (lt_of_get h3)).trans h3⟩
def fQ (p : Int) (y : Int) : Fact := fun v w => ∃ qA, v = .agg #[.int .i64 1, .int .u8 p, .slice qA 1 1, .string ⟨#[]⟩, .int .u8 117, .string ⟨#[]⟩] ∧ SeqAt w qA [[y]]
theorem Stays.fQ (p y : Int) : Stays (fQ p y) := fun v w w' ⟨qA, h1, h2⟩ hb => ⟨qA, h1, Kd.C_below h2 hb⟩
def fDo (x : Int) (l : List Int) : Fact := fun v w => ∃ A c, v = .tuple #[.agg (stS Md.zero z12 x (.slice A l.length c)).toArray, .slice none 0 0, .bool true] ∧ l.length ≤ c ∧ IntsI w A l
theorem Stays.fDo (x : Int) (l : List Int) : Stays (fDo x l) := fun v w w' ⟨A, c, h1, h2, h3⟩ hb => ⟨A, c, h1, h2, h3.below hb⟩
def fSt (x : Int) (l : List Int) : Fact := fun v w => ∃ A c, v = .agg (stS Md.zero z12 x (.slice A l.length c)).toArray ∧ l.length ≤ c ∧ IntsI w A l
theorem Stays.fSt (x : Int) (l : List Int) : Stays (fSt x l) := fun v w w' ⟨A, c, h1, h2, h3⟩ hb => ⟨A, c, h1, h2, h3.below hb⟩
def fTup : Fact := fun v _ => ∃ a, v = .tuple #[a, .slice none 0 0, .bool true]
theorem Stays.fTup : Stays fTup := fun _ _ _ h _ => h
theorem fDo.tup {x : Int} {l : List Int} {v : Value} {w w' : World} (h : fDo x l v w) : fTup v w' := by
  obtain ⟨A, c, h, _⟩ := h
  exact ⟨_, h⟩
def fVarSt (B : Nat) (x : Int) (l : List Int) : Fact := fun v w => ∃ b A c, v = .pointer (some ⟨b, 0, none⟩) ∧ B ≤ b ∧ w.heap[b]? = some (.cells (stS Md.zero z12 x (.slice A l.length c)).toArray 44 (0, 0)) ∧ l.length ≤ c ∧ IntsI w A l
theorem Stays.fVarSt (B : Nat) (x : Int) (l : List Int) : Stays (fVarSt B x l) := fun v w w' ⟨b, A, c, h1, h2, h3, h4, h5⟩ hb => ⟨b, A, c, h1, h2, (hb.block b (lt_of_get h3)).trans h3, h4, h5.below hb⟩
theorem push_take {F : List Int} {k : Nat} (hk : k < F.length) (h8 : k ≤ 7) : pushL (F.getD k 0) (F.take k) = F.take (k + 1) := by
  have hl : (F.take k).length = k := by rw [List.length_take]; omega
  unfold pushL
  rw [hl, show k + 1 - 8 = 0 by omega, List.drop_zero, List.take_add_one]
  congr 1
  simp [List.getD, hk]
theorem pop_all {F : List Int} {n : Nat} (hn : n < F.length) : popL (F.getD n 0) (F.take n) (n : Int) = (F.getD 0 0, []) := by
  have hl : (F.take n).length = n := by rw [List.length_take]; omega
  unfold popL
  rw [hl]
  by_cases h : n = 0
  · subst h
    rw [if_pos (by omega)]
    simp
  · rw [if_neg (by omega), if_neg (by omega)]
    simp only [Int.toNat_natCast, Nat.sub_self]
    have h0 : 0 < n := by omega
    have h1 : 0 < F.length := by omega
    simp [List.getD, List.getElem?_take, h0, h1]
theorem refArg_f (k p f : Int) (i dt : ByteArray) (l : List (List Int)) (j : Nat) (d : Int) : G.clavierref03_Arg.f k p l i f dt (j : Int) d = some (argI l j d) := by
  unfold G.clavierref03_Arg.f argI
  rw [if_neg (by omega)]
  by_cases h : j < l.length
  · rw [if_neg (by omega), if_pos (by omega), if_pos (by omega), List.getElem?_eq_getElem h]
    have e : G.rd_L1 l (j : Int) = l[j] := by simp [G.rd_L1, h]
    rw [e]
    cases hr : l[j] with
    | nil => simp [numOf]
    | cons x t =>
      rw [if_neg (by simp only [List.length_cons]; omega), if_pos (by simp only [List.length_cons]; omega)]
      have e2 : rd (x :: t) 0 = x := by simp [rd]
      rw [e2]
      show _ = some (if x < 0 then d else x)
      split <;> rfl
  · rw [if_pos (by omega), List.getElem?_eq_none (by omega)]
theorem refArg_calls (k p f : Int) (i dt : ByteArray) (A : Option Addr) (c : Nat) (l : List (List Int)) (hc : l.length ≤ c) (j : Nat) (d : Int) (w : World) (hr : SeqAt w A l) :
    Calls Tryz.prog 21 #[.agg #[.int .i64 k, .int .u8 p, .slice A l.length c, .string i, .int .u8 f, .string dt], .int .i64 (j : Int), .int .i64 d] w fun e w' => e = .returned (.int .i64 (argI l j d)) ∧ Below w.heap.size w w' :=
  G.clavierref03_Arg.calls k p A c l i f dt j d _ w hr hc (refArg_f k p f i dt l j d)
theorem refArg0 (x : Int) (hx : 0 ≤ x) {Au : Option Addr} {cu : Nat} (hcu : 1 ≤ cu) (w : World) (h : SeqAt w Au [[x]]) : Calls Tryz.prog 21 #[.agg #[.int .i64 1, .int .u8 63, .slice Au 1 cu, .string ⟨#[]⟩, .int .u8 117, .string ⟨#[]⟩], .int .i64 0, .int .i64 (-1)] w fun e w' => e = .returned (.int .i64 x) ∧ Below w.heap.size w w' :=
  (refArg_calls 1 63 117 ⟨#[]⟩ ⟨#[]⟩ Au cu [[x]] hcu 0 (-1) w h).mono fun e w' h => ⟨by rw [h.1]; simp [argI, numOf]; omega, h.2⟩
theorem same_was (x0 : Int) (A' : Option Addr) (c' : Nat) (w : World) : Calls Tryz.prog 18 #[.agg (stS Md.zero z12 x0 (.slice A' ([] : List Int).length c')).toArray, .agg (stS Md.zero z12 x0 (.slice none 0 0)).toArray] w fun e w' => e = .returned (.bool true) ∧ Below w.heap.size w w' :=
  (actSame_calls Md.zero Md.zero z12 z12 rfl rfl x0 x0 A' none c' 0 [] [] (Nat.zero_le _) (by decide) (by decide) w ⟨rfl, by simp, fun h => by simp at h⟩ (noRow w)).mono fun e w' h => ⟨by rw [h.1]; simp, h.2⟩
attribute [local irreducible] wpList Calls wpQuiet
set_option maxRecDepth 100000 in
set_option maxHeartbeats 16000000 in
theorem actFlags_calls (n0 : Int) (hn0 : 0 ≤ n0) (hn1 : n0 < 256) (A : Option Addr) (l : List Int) (c : Nat) (hc : l.length ≤ c) (hb : isB l = true) (w : World) (hr : Kd.C (Kd.int .u8) w A l.length l) :
    Calls Tryz.prog 7 #[.int .u8 n0, .slice A l.length c] w fun e w' => e = .returned (.bool true) ∧ Below w.heap.size w w' := by
  have HO := Mine.start w
  obtain ⟨m, hm⟩ : ∃ m, l.length = m := ⟨_, rfl⟩
  have HM := Lib.hid hm
  rw [hm] at hc hr ⊢
  by_cases h8 : m ≤ 8
  case neg =>
    have d0 : decide ((m : Int) > 8) = true := decide_eq_true (by omega)
    have d0' : decide ((8 : Int) < (m : Int)) = true := decide_eq_true (by omega)
    clear hr hb hc
    go_enter Tryz.func7, Tryz.ntmps7
    go_wp2_with (go_at_call 9; refine (awake21_calls _).mono ?_; rintro eN wN ⟨rfl, hbN⟩; have HON := HO.call hbN; clear HO hbN; have HO := HON; clear HON)
    go_ret
    exact ⟨rfl, HO.below⟩
  have d0 : decide ((m : Int) > 8) = false := decide_eq_false (by omega)
  have d0' : decide ((8 : Int) < (m : Int)) = false := decide_eq_false (by omega)
  obtain ⟨x0, hx0⟩ : ∃ x0, n0.tmod 32 = x0 := ⟨_, rfl⟩
  have hx1 : 0 ≤ x0 ∧ x0 < 32 := by
    rw [← hx0, Int.tmod_eq_emod_of_nonneg hn0]
    omega
  have u1 : IntKind.u8.wrap x0 = x0 := by unfold IntKind.wrap; simp [IntKind.signed, IntKind.bits]; omega
  have u2 : IntKind.i64.wrap x0 = x0 := by rw [IntKind.wrap_i64]; omega
  have HR := Lib.hid hr
  have HB := Lib.hid ((isB_iff l).1 hb)
  have H8 := Lib.hid h8
  have HX1 := Lib.hid hx1
  obtain ⟨F, hF⟩ : ∃ F : List Int, x0 :: l.map (· % 32) = F := ⟨_, rfl⟩
  have hFl : F.length = m + 1 := by rw [← hF, List.length_cons, List.length_map, hm]
  have hF0 : F.getD 0 0 = x0 := by rw [← hF]; rfl
  have HF := Lib.hid hF
  have HFL := Lib.hid hFl
  have HF0 := Lib.hid hF0
  clear hr hb hF hFl hF0 hx1 h8 hn0 hn1
  go_enter Tryz.func7, Tryz.ntmps7
  go_wp2_with (first
    | (go_at_call 9; refine (awake21_calls _).mono ?_; rintro eN wN ⟨rfl, hbN⟩; have HON := HO.call hbN; clear HO hbN; have HO := HON; clear HON)
    | (first
      | ((with_reducible refine gate ?_); (first
      | ((with_reducible refine gateAt (N := 6) rfl ?_); refine own_allocF (T := 44) HO rfl rfl Tryz.zeroValue44 rfl ?_; clear HO; intro g6 wN hgg6 HO; (try simp only [Act.put, List.setIfInBounds_toArray, List.set_cons_zero, List.set_cons_succ]))
      | ((with_reducible refine gateAt (N := 7) rfl ?_); refine own_allocF (T := 44) HO rfl rfl Tryz.zeroValue44 rfl ?_; clear HO; intro g7 wN hgg7 HO; (try simp only [Act.put, List.setIfInBounds_toArray, List.set_cons_zero, List.set_cons_succ]))
      | ((refine own_load (T := 44) HO rfl rfl rfl (by first | exact .head _ | exact .tail _ (.head _)) Tryz.isAgg44 Tryz.sizeOf44 (by repeat constructor) ?_); (try simp only [Act.put, List.setIfInBounds_toArray, List.set_cons_zero, List.set_cons_succ]))
      | ((refine own_store (T := 44) HO rfl rfl rfl rfl (by first | exact .here | exact .there (.here)) Tryz.sizeOf44 (by repeat constructor) rfl ?_); clear HO; intro wN HO; (try simp only [Act.put, List.setIfInBounds_toArray, List.set_cons_zero, List.set_cons_succ]))))))
  go_loopw [8] (fun i wr => ∃ (k : Nat) (A9 : Option Addr) (c9 : Nat), k ≤ m ∧ i = .int .i64 (k : Int) ∧ (F.take k).length ≤ c9 ∧ IntsI wr A9 (F.take k) ∧ Mine w wr [(g7, IsCells (stS Md.zero z12 x0 (.slice none 0 0)) 44), (g6, IsCells (stS Md.zero z12 (F.getD k 0) (.slice A9 (F.take k).length c9)) 44)]) (fun i _ => m - (intOf i).toNat)
  case atStart =>
    refine ⟨0, none, 0, Nat.zero_le _, rfl, by simp, .inl (by simp), ?_⟩
    rw [HF0.out]
    exact HO
  case round =>
    obtain ⟨k, A9, c9, hk, rfl, hc9, hI9, HO2⟩ := hrel
    clear HO
    have HO := HO2
    clear HO2
    by_cases hlt : k < m
    · have d1 : decide ((k : Int) < (m : Int)) = true := decide_eq_true (by omega)
      obtain ⟨ad, e, hcell⟩ := Kd.at_int HR.out (k : Int) (by omega) (by have := HM.out; omega)
      subst e
      rw [Int.toNat_natCast, rd_intA l k (by have := HM.out; omega)] at hcell
      obtain ⟨y, hy⟩ : ∃ y, l.getD k 0 = y := ⟨_, rfl⟩
      rw [hy] at hcell
      have HCELL := Lib.hid hcell
      have hyl : y ∈ l := by
        have h1 : k < l.length := by have := HM.out; omega
        rw [← hy]
        simp only [List.getD, List.getElem?_eq_getElem h1, Option.getD_some]
        exact List.getElem_mem h1
      have hyb := HB.out y hyl
      obtain ⟨x, hx⟩ : ∃ x, F.getD k 0 = x := ⟨_, rfl⟩
      obtain ⟨ls, hls⟩ : ∃ ls, F.take k = ls := ⟨_, rfl⟩
      obtain ⟨x', hx'⟩ : ∃ x', F.getD (k + 1) 0 = x' := ⟨_, rfl⟩
      obtain ⟨ls', hls'⟩ : ∃ ls', F.take (k + 1) = ls' := ⟨_, rfl⟩
      have hxy : x' = y % 32 := by
        have h1 : k < l.length := by have := HM.out; omega
        rw [← hx', ← HF.out, ← hy]
        simp [List.getD, h1]
      have hfl : flagsI y = x' := by
        rw [hxy]
        unfold flagsI mx
        split <;> omega
      have hpl : pushL x ls = ls' := by
        rw [← hx, ← hls, ← hls']
        exact push_take (by have := HFL.out; omega) (by have := H8.out; omega)
      have hlsl : ls.length ≤ 100 := by rw [← hls, List.length_take]; have := H8.out; omega
      rw [hx, hls] at HO
      rw [hls] at hc9 hI9
      have hcc := fun (W : World) (hW : Below wr.heap.size wr W) (qA : Option Addr) (hq : SeqAt W qA [[y]]) => do_push Md.zero z12 rfl x A9 c9 ls hlsl hc9 W (hI9.below hW) qA y hyb.1 hq
      rw [hpl, hfl] at hcc
      have HC := Lib.hid hcc
      have hx2 : 0 ≤ x' ∧ x' < 32 := by rw [hxy]; omega
      have hx3 : flagsI x' = x' := flagsI_id hx2.1 hx2.2
      have HX3 := Lib.hid hx3
      have HX2 := Lib.hid hx2
      have HXE := Lib.hid (show F.getD (k + 1) 0 = x' from hx')
      have HLE := Lib.hid (show F.take (k + 1) = ls' from hls')
      have hki : (k : Int) < (m : Int) := by omega
      have hkm : k < m := hlt
      have HLT := Lib.hid hlt
      have w1 : IntKind.i64.wrap y = y := by rw [IntKind.wrap_i64]; omega
      have w2 : y.tmod 32 = x' := by rw [Int.tmod_eq_emod_of_nonneg hyb.1, hxy]
      have w3 : IntKind.u8.wrap x' = x' := by unfold IntKind.wrap; simp [IntKind.signed, IntKind.bits]; omega
      have w4 : IntKind.i64.wrap x' = x' := by rw [IntKind.wrap_i64]; omega
      clear hcc hpl hfl hxy hx hls hx' hls' hy hyl hyb hcell hI9 hc9 hlsl hx2 hx3 hk u1 u2 hx0 hlt
      go_wp2
      have HL := Lib.hid (show ∀ q ∈ [(g7, IsCells (stS Md.zero z12 x0 (.slice none 0 0)) 44), (g6, IsCells (stS Md.zero z12 x (.slice A9 ls.length c9)) 44)], q.1 < wr.heap.size from fun q hq => HO.lt hq)
      have HW0 := Lib.hid HO.below.size
      refine region_put 16 _ [fIs (.agg (stS Md.zero z12 x (.slice A9 ls.length c9)).toArray), fIs (.agg #[.int .i64 0, .int .i64 0, .int .i64 0, .int .i64 0, .int .i64 0, .int .i64 0, .int .i64 0, .int .i64 0, .int .i64 0, .bool false, .bool false, .bool false, .bool false, .bool false, .bool false, .bool false, .int .i64 0, .int .i64 0, .int .i64 0]), fIs (.slice (some ad) m c), fIs (.int .i64 (k : Int)), fIs (.pointer (some (ad.add k))), fIs (.int .u8 y), fIs (.int .i64 y), fRow 3 1 [.int .i64 y], fRows1 y, fQ 62 y, fDo x' ls', fDo x' ls', fSt x' ls', fIs (.slice none 0 0), fIs (.bool true), fVar wr.heap.size 44 stZero, fAny, fIs (.slice none 0 0), fIs (.bool true)] [fAny, fAny, fAny, fAny, fAny, fAny, fAny, fAny, fAny, fAny, fAny, fTup, fAny, fIs (.slice none 0 0), fIs (.bool true), fVarSt wr.heap.size x' ls', fAny, fIs (.slice none 0 0), fIs (.bool true)] HO (by kernel_rfl) (by kernel_rfl) rfl (stays_cons (Stays.fIs _) (stays_cons (Stays.fIs _) (stays_cons (Stays.fIs _) (stays_cons (Stays.fIs _) (stays_cons (Stays.fIs _) (stays_cons (Stays.fIs _) (stays_cons (Stays.fIs _) (stays_cons (Stays.fRow _ _ _) (stays_cons (Stays.fRows1 _) (stays_cons (Stays.fQ _ _) (stays_cons (Stays.fDo _ _) (stays_cons (Stays.fDo _ _) (stays_cons (Stays.fSt _ _) (stays_cons (Stays.fIs _) (stays_cons (Stays.fIs _) (stays_cons (Stays.fVar _ _ _) (stays_cons (Stays.fAny) (stays_cons (Stays.fIs _) (stays_cons (Stays.fIs _) stays_nil))))))))))))))))))) (stays_cons (Stays.fAny) (stays_cons (Stays.fAny) (stays_cons (Stays.fAny) (stays_cons (Stays.fAny) (stays_cons (Stays.fAny) (stays_cons (Stays.fAny) (stays_cons (Stays.fAny) (stays_cons (Stays.fAny) (stays_cons (Stays.fAny) (stays_cons (Stays.fAny) (stays_cons (Stays.fAny) (stays_cons (Stays.fTup) (stays_cons (Stays.fAny) (stays_cons (Stays.fIs _) (stays_cons (Stays.fIs _) (stays_cons (Stays.fVarSt _ _ _) (stays_cons (Stays.fAny) (stays_cons (Stays.fIs _) (stays_cons (Stays.fIs _) stays_nil))))))))))))))))))) (bs' := [(g7, IsCells (stS Md.zero z12 x0 (.slice none 0 0)) 44), (g6, IsCells (stS Md.zero z12 x (.slice A9 ls.length c9)) 44)]) ?_
      intro vals A hA
      simp [fillL, dstOf, List.range, List.range.loop, Act.put] at hA
      subst hA
      refine ⟨⟨?_, ?_, ?_, ?_, ?_, ?_, ?_, ?_, ?_, ?_, ?_, ?_, ?_, ?_, ?_, ?_, ?_, ?_, ?_, trivial⟩, ?_⟩
      case refine_1 =>
        refine owesB (by decide) (by kernel_rfl) ?_
        intro W hd hM hb0
        exact st_load (vs := (stS Md.zero z12 x (.slice A9 ls.length c9))) hM rfl rfl rfl (.tail _ (.head _)) Tryz.isAgg44 Tryz.sizeOf44 (Slc.fullN (stS_len rfl)) rfl
      case refine_2 =>
        refine owesB (by decide) (by kernel_rfl) ?_
        intro W hd hM hb0
        exact st_val rfl (by simp only [execOp]; first | (go_simp; done) | (go_simp; rfl)) rfl
      case refine_3 =>
        refine owesB (by decide) (by kernel_rfl) ?_
        intro W hd hM hb0
        exact st_val rfl (by simp only [execOp]; first | (go_simp; done) | (go_simp; rfl)) rfl
      case refine_4 =>
        refine owesB (by decide) (by kernel_rfl) ?_
        intro W hd hM hb0
        exact st_val rfl (by simp only [execOp]; first | (go_simp; done) | (go_simp; rfl)) rfl
      case refine_5 =>
        refine owesB (by decide) (by kernel_rfl) ?_
        intro W hd hM hb0
        have v2 : vals 2 = .slice (some ad) m c := hd 2 (by kernel_rfl)
        have v3 : vals 3 = .int .i64 (k : Int) := hd 3 (by kernel_rfl)
        rw [v2, v3]
        exact st_val rfl (by simp only [execOp]; go_simp; first | done | rfl | (simp [hki, hkm]; done) | (simp [hki, hkm]; rfl)) rfl
      case refine_6 =>
        refine owesB (by decide) (by kernel_rfl) ?_
        intro W hd hM hb0
        have v4 : vals 4 = .pointer (some (ad.add k)) := hd 4 (by kernel_rfl)
        rw [v4]
        exact st_read hM rfl rfl rfl HCELL.out Tryz.isAgg5 rfl
      case refine_7 =>
        refine owesB (by decide) (by kernel_rfl) ?_
        intro W hd hM hb0
        have v5 : vals 5 = .int .u8 y := hd 5 (by kernel_rfl)
        rw [v5]
        exact st_val rfl (by simp only [execOp]; first | (go_simp; done) | (go_simp; rfl)) rfl
      case refine_8 =>
        refine owesB (by decide) (by kernel_rfl) ?_
        intro W hd hM hb0
        have v6 : vals 6 = .int .i64 y := hd 6 (by kernel_rfl)
        rw [v6]
        exact st_new (ob := .cells #[.int .i64 y] 3 (0, 0)) rfl (by simp only [execOp]; first | (go_simp; done) | (go_simp; rfl)) (fun h => ⟨_, rfl, h⟩)
      case refine_9 =>
        refine owesB (by decide) (by kernel_rfl) ?_
        intro W hd hM hb0
        obtain ⟨b7, e7, hb7⟩ : fRow 3 1 [.int .i64 y] (vals 7) W := hd 7 (by kernel_rfl)
        rw [e7]
        exact st_new (ob := .cells #[.slice (some ⟨b7, 0, none⟩) 1 1] 26 (0, 0)) rfl (by simp only [execOp]; first | (go_simp; done) | (go_simp; rfl)) (fun h => ⟨b7, _, rfl, h, (Below.heap_alloc W _ b7 (lt_of_get hb7)).trans hb7⟩)
      case refine_10 =>
        refine owesB (by decide) (by kernel_rfl) ?_
        intro W hd hM hb0
        obtain ⟨b7, b8, e8, hb8, hb7⟩ : fRows1 y (vals 8) W := hd 8 (by kernel_rfl)
        rw [e8]
        exact st_val rfl (by simp only [execOp]; first | (go_simp; done) | (go_simp; rfl)) ⟨_, rfl, rows_at hb7 hb8⟩
      case refine_11 =>
        refine owesB (by decide) (by kernel_rfl) ?_
        intro W hd hM hb0
        have v0 : vals 0 = .agg (stS Md.zero z12 x (.slice A9 ls.length c9)).toArray := hd 0 (by kernel_rfl)
        have v1 : vals 1 = .agg #[.int .i64 0, .int .i64 0, .int .i64 0, .int .i64 0, .int .i64 0, .int .i64 0, .int .i64 0, .int .i64 0, .int .i64 0, .bool false, .bool false, .bool false, .bool false, .bool false, .bool false, .bool false, .int .i64 0, .int .i64 0, .int .i64 0] := hd 1 (by kernel_rfl)
        rw [v0, v1]
        obtain ⟨qA, e9, hq⟩ : fQ 62 y (vals 9) W := hd 9 (by kernel_rfl)
        rw [e9]
        exact st_call rfl (by simp only [execOp]; first | (go_simp; done) | (go_simp; rfl)) (HC.out W hb0 qA hq) (by rintro e w' ⟨A2, c2, rfl, h1, h2, hb⟩; exact ⟨_, rfl, hb, A2, c2, rfl, h1, h2⟩)
      case refine_12 =>
        refine owesB (by decide) (by kernel_rfl) ?_
        intro W hd hM hb0
        obtain ⟨A2, c2, e10, h1, h2⟩ : fDo x' ls' (vals 10) W := hd 10 (by kernel_rfl)
        rw [e10]
        exact st_val rfl (by simp only [execOp]; first | (go_simp; done) | (go_simp; rfl)) ⟨A2, c2, rfl, h1, h2⟩
      case refine_13 =>
        refine owesB (by decide) (by kernel_rfl) ?_
        intro W hd hM hb0
        obtain ⟨A2, c2, e11, h1, h2⟩ : fDo x' ls' (vals 11) W := hd 11 (by kernel_rfl)
        rw [e11]
        exact st_val rfl (by simp only [execOp]; first | (go_simp; done) | (go_simp; rfl)) ⟨A2, c2, rfl, h1, h2⟩
      case refine_14 =>
        refine owesA (by decide) (by kernel_rfl) ?_
        intro W hd
        obtain ⟨a, e11⟩ : fTup (vals 11) W := (hd 11 (by kernel_rfl)).elim fDo.tup id
        rw [e11]
        exact st_pure rfl (fun w => by simp only [execOp]; first | (go_simp; done) | (go_simp; rfl)) ⟨rfl, rfl⟩
      case refine_15 =>
        refine owesA (by decide) (by kernel_rfl) ?_
        intro W hd
        obtain ⟨a, e11⟩ : fTup (vals 11) W := (hd 11 (by kernel_rfl)).elim fDo.tup id
        rw [e11]
        exact st_pure rfl (fun w => by simp only [execOp]; first | (go_simp; done) | (go_simp; rfl)) ⟨rfl, rfl⟩
      case refine_16 =>
        refine owesB (by decide) (by kernel_rfl) ?_
        intro W hd hM hb0
        exact st_new (ob := .cells stZero.toArray 44 (0, 0)) rfl (by simp only [execOp]; first | (go_simp; done) | (go_simp; rfl)) (fun h => ⟨_, rfl, hb0.size, h⟩)
      case refine_17 =>
        refine owesS ?_
        intro W hd hM hb0
        obtain ⟨A2, c2, e12, h1, h2⟩ : fSt x' ls' (vals 12) W := hd 12 (by kernel_rfl)
        obtain ⟨b, e15, hge, hb⟩ : fVar wr.heap.size 44 stZero (vals 15) W := hd 15 (by kernel_rfl)
        rw [e12, e15]
        exact new_storedX (cs := (stS Md.zero z12 x' (.slice A2 ls'.length c2))) hM HL.out HW0.out hge hb rfl rfl rfl rfl (size_at (stS_len rfl) Tryz.sizeOf44) (PutAt.full (by rw [stS_len rfl]; rfl)) (stS_one _ _ _ rfl) (fun _ _ => trivial) (fun w' hoth hblk => ⟨fun _ => trivial, fun _ => trivial, fun _ => trivial, fun _ => trivial, fun _ => trivial, fun _ => trivial, fun _ => trivial, fun _ => trivial, fun _ => trivial, fun _ => trivial, fun _ => trivial, fDo.tup, fun _ => trivial, id, id, fun _ => ⟨b, A2, c2, e15, hge, hblk, h1, h2.off (by decide) hb hoth⟩, fun _ => trivial, id, id, trivial⟩)
      case refine_18 =>
        refine owesA (by decide) (by kernel_rfl) ?_
        intro W hd
        have v13 : vals 13 = .slice none 0 0 := (hd 13 (by kernel_rfl)).elim id id
        rw [v13]
        exact st_pure rfl (fun w => by simp only [execOp]; first | (go_simp; done) | (go_simp; rfl)) ⟨rfl, rfl⟩
      case refine_19 =>
        refine owesA (by decide) (by kernel_rfl) ?_
        intro W hd
        have v14 : vals 14 = .bool true := (hd 14 (by kernel_rfl)).elim id id
        rw [v14]
        exact st_pure rfl (fun w => by simp only [execOp]; first | (go_simp; done) | (go_simp; rfl)) ⟨rfl, rfl⟩
      case refine_20 =>
        intro W hd hM
        obtain ⟨b, A2, c2, e15, hge, hb, hc2, hI2⟩ : fVarSt wr.heap.size x' ls' (vals 15) W := hd 15 (by decide)
        have v17 : vals 17 = .slice none 0 0 := hd 17 (by decide)
        have v18 : vals 18 = .bool true := hd 18 (by decide)
        have HO := hM.take (p := IsCells (stS Md.zero z12 x' (.slice A2 ls'.length c2)) 44) HL.out HW0.out hge ⟨_, hb, rfl⟩
        simp only [List.nil_append, List.cons_append] at HO
        have HX : (fun w' => IntsI w' A2 ls') W := hI2
        rw [e15, v17, v18]
        clear hd hM hb hI2 e15 v17 v18 HC HL HW0
        go_wp2_with (first
          | (go_at_call 12; refine (do_ask Md.zero z12 rfl x' A2 ls'.length c2 _).mono ?_; rintro eN wN ⟨vA, RA, rfl, HM, gA, u, BS, rfl, rfl, hKS⟩; (have HXN : (fun w' => IntsI w' A2 ls' ∧ Kd.S (Kd.slice 3 (Kd.int .i64)) 26 w' BS (fun _ => True) u [[flagsI x']]) wN := ⟨HX.below HM.below, hKS⟩); have HON := HO.join HM; clear HO HX HM hKS; have HO := HON; have HX := HXN; clear HON HXN; (simp only [List.nil_append, List.cons_append] at HO))
          | ((with_reducible refine gate ?_); (first
            | ((refine own_load (T := 44) (vs := (stS Md.zero z12 x' (.slice A2 ls'.length c2))) HO rfl rfl rfl (by first | exact .head _ | exact .tail _ (.head _) | exact .tail _ (.tail _ (.head _)) | exact .tail _ (.tail _ (.tail _ (.head _))) | exact .tail _ (.tail _ (.tail _ (.tail _ (.head _)))) | exact .tail _ (.tail _ (.tail _ (.tail _ (.tail _ (.head _)))))) Tryz.isAgg44 Tryz.sizeOf44 (Slc.fullN (stS_len rfl)) ?_); (try simp only [Act.put, List.setIfInBounds_toArray, List.set_cons_zero, List.set_cons_succ]))
            | ((refine own_storeX (T := 44) (vs := (stS Md.zero z12 x' (.slice A2 ls'.length c2))) HO HX rfl rfl rfl rfl (by first | exact .here | exact .there (.here) | exact .there (.there (.here)) | exact .there (.there (.there (.here))) | exact .there (.there (.there (.there (.here)))) | exact .there (.there (.there (.there (.there (.here)))))) (IntsI.xs _ _) (size_at (stS_len rfl) Tryz.sizeOf44) (PutAt.full (by rfl)) (stS_one _ _ _ rfl) ?_); clear HO HX; intro wN HO HX; (try simp only [Act.put, List.setIfInBounds_toArray, List.set_cons_zero, List.set_cons_succ]))
            | ((refine own_storeX (T := 44) (vs := (stS Md.zero z12 x' (.slice A2 ls'.length c2))) HO HX rfl rfl rfl rfl (by first | exact .here | exact .there (.here) | exact .there (.there (.here)) | exact .there (.there (.there (.here))) | exact .there (.there (.there (.there (.here)))) | exact .there (.there (.there (.there (.there (.here)))))) ((show XS 44 (fun w' => IntsI w' A2 ls' ∧ Kd.S (Kd.slice 3 (Kd.int .i64)) 26 w' BS (fun _ => True) u [[flagsI x']]) from XS.and (IntsI.xs _ _) (XS.rows _ _ _ _ _ _ (by decide)))) (size_at (stS_len rfl) Tryz.sizeOf44) (PutAt.full (by rfl)) (stS_one _ _ _ rfl) ?_); clear HO HX; intro wN HO HX; (try simp only [Act.put, List.setIfInBounds_toArray, List.set_cons_zero, List.set_cons_succ]))
            ))
          | ((with_reducible refine gateAt (N := 12) rfl ?_); refine own_allocX (T := 44) (cs := stZero) HO HX ((show XB (fun w' => IntsI w' A2 ls' ∧ Kd.S (Kd.slice 3 (Kd.int .i64)) 26 w' BS (fun _ => True) u [[flagsI x']]) from XB.and (fun _ _ h hb => IntsI.below h hb) (XB.rows _ _ _ _ _ _))) rfl rfl Tryz.zeroValue44 rfl ?_; clear HO HX; intro g12 wN hgg12 HO HX; (simp only [List.nil_append, List.cons_append] at HO); (try simp only [Act.put, List.setIfInBounds_toArray, List.set_cons_zero, List.set_cons_succ])))
        obtain ⟨hI2, hKS⟩ := HX
        obtain ⟨Au, cu, rfl, hcu, hRu⟩ := Kd.S_reads hKS
        rw [HX3.out] at hRu
        have HAU := Lib.hid hRu
        have HCU := Lib.hid hcu
        have HI2 := Lib.hid hI2
        have HC2 := Lib.hid hc2
        clear hKS hRu hcu hI2 hc2
        refine region_law 20 [fIs (.bool true), fIs (.bool false), fIs (.bool false), fIs (.slice (some ⟨gA, 0, none⟩) 1 1), fIs (.int .i64 1), fIs (.bool false), fIs (.bool false), fIs (.bool false), fIs (.slice (some ⟨gA, 0, none⟩) 1 1), fIs (.pointer (some ⟨gA, 0, none⟩)), fIs (.agg #[.int .i64 1, .int .u8 63, .slice Au 1 cu, .string ⟨#[]⟩, .int .u8 117, .string ⟨#[]⟩]), fIs (.int .i64 x'), fIs (.slice (some ad) m c), fIs (.int .i64 (k : Int)), fIs (.pointer (some (ad.add k))), fIs (.int .u8 y), fIs (.int .u8 x'), fIs (.int .i64 x'), fIs (.bool false), fIs (.bool false)] HO (by kernel_rfl) (by kernel_rfl) (by decide) (by kernel_rfl)
          (stays_cons (Stays.fIs _) (stays_cons (Stays.fIs _) (stays_cons (Stays.fIs _) (stays_cons (Stays.fIs _) (stays_cons (Stays.fIs _) (stays_cons (Stays.fIs _) (stays_cons (Stays.fIs _) (stays_cons (Stays.fIs _) (stays_cons (Stays.fIs _) (stays_cons (Stays.fIs _) (stays_cons (Stays.fIs _) (stays_cons (Stays.fIs _) (stays_cons (Stays.fIs _) (stays_cons (Stays.fIs _) (stays_cons (Stays.fIs _) (stays_cons (Stays.fIs _) (stays_cons (Stays.fIs _) (stays_cons (Stays.fIs _) (stays_cons (Stays.fIs _) (stays_cons (Stays.fIs _) stays_nil)))))))))))))))))))) ?_
        intro vals A hA
        simp [fillL, dstOf, List.range, List.range.loop, Act.put] at hA
        subst hA
        refine ⟨⟨?_, ?_, ?_, ?_, ?_, ?_, ?_, ?_, ?_, ?_, ?_, ?_, ?_, ?_, ?_, ?_, ?_, ?_, ?_, ?_, trivial⟩, ?_⟩
        all_goals intro W hd hM hb0
        case refine_1 =>
          skip
          exact st_val rfl (by simp only [execOp]; first | (go_simp; done) | (go_simp; rfl)) rfl
        case refine_2 =>
          have v0 : vals 0 = .bool true := hd 0 (by kernel_rfl)
          rw [v0]
          exact st_val rfl (by simp only [execOp]; first | (go_simp; done) | (go_simp; rfl)) rfl
        case refine_3 =>
          have v1 : vals 1 = .bool false := hd 1 (by kernel_rfl)
          rw [v1]
          exact st_val rfl (by simp only [execOp]; first | (go_simp; done) | (go_simp; rfl)) rfl
        case refine_4 =>
          have v2 : vals 2 = .bool false := hd 2 (by kernel_rfl)
          rw [v2]
          exact st_val rfl (by simp only [execOp]; first | (go_simp; done) | (go_simp; rfl)) rfl
        case refine_5 =>
          have v2 : vals 2 = .bool false := hd 2 (by kernel_rfl)
          have v3 : vals 3 = .slice (some ⟨gA, 0, none⟩) 1 1 := hd 3 (by kernel_rfl)
          rw [v2, v3]
          exact st_val rfl (by simp only [execOp]; first | (go_simp; done) | (go_simp; rfl)) rfl
        case refine_6 =>
          have v2 : vals 2 = .bool false := hd 2 (by kernel_rfl)
          have v4 : vals 4 = .int .i64 1 := hd 4 (by kernel_rfl)
          rw [v2, v4]
          exact st_val rfl (by simp only [execOp]; first | (go_simp; done) | (go_simp; rfl)) rfl
        case refine_7 =>
          have v2 : vals 2 = .bool false := hd 2 (by kernel_rfl)
          have v5 : vals 5 = .bool false := hd 5 (by kernel_rfl)
          rw [v2, v5]
          exact st_val rfl (by simp only [execOp]; first | (go_simp; done) | (go_simp; rfl)) rfl
        case refine_8 =>
          have v2 : vals 2 = .bool false := hd 2 (by kernel_rfl)
          have v6 : vals 6 = .bool false := hd 6 (by kernel_rfl)
          rw [v2, v6]
          exact st_val rfl (by simp only [execOp]; first | (go_simp; done) | (go_simp; rfl)) rfl
        case refine_9 =>
          have v7 : vals 7 = .bool false := hd 7 (by kernel_rfl)
          rw [v7]
          exact st_val rfl (by simp only [execOp]; first | (go_simp; done) | (go_simp; rfl)) rfl
        case refine_10 =>
          have v7 : vals 7 = .bool false := hd 7 (by kernel_rfl)
          have v8 : vals 8 = .slice (some ⟨gA, 0, none⟩) 1 1 := hd 8 (by kernel_rfl)
          rw [v7, v8]
          exact st_val rfl (by simp only [execOp]; first | (go_simp; done) | (go_simp; rfl)) rfl
        case refine_11 =>
          have v7 : vals 7 = .bool false := hd 7 (by kernel_rfl)
          have v9 : vals 9 = .pointer (some ⟨gA, 0, none⟩) := hd 9 (by kernel_rfl)
          rw [v7, v9]
          exact st_load hM rfl rfl rfl (by first | exact .head _ | exact .tail _ (.head _) | exact .tail _ (.tail _ (.head _)) | exact .tail _ (.tail _ (.tail _ (.head _))) | exact .tail _ (.tail _ (.tail _ (.tail _ (.head _)))) | exact .tail _ (.tail _ (.tail _ (.tail _ (.tail _ (.head _)))))) Tryz.isAgg37 Tryz.sizeOf37 (by repeat constructor) rfl
        case refine_12 =>
          have v7 : vals 7 = .bool false := hd 7 (by kernel_rfl)
          have v10 : vals 10 = .agg #[.int .i64 1, .int .u8 63, .slice Au 1 cu, .string ⟨#[]⟩, .int .u8 117, .string ⟨#[]⟩] := hd 10 (by kernel_rfl)
          rw [v7, v10]
          exact st_call rfl (by simp only [execOp]; first | (go_simp; done) | (go_simp; rfl)) (refArg0 x' HX2.out.1 HCU.out W (Kd.C_below HAU.out hb0)) (by rintro e w' ⟨rfl, hb⟩; exact ⟨_, rfl, hb, rfl⟩)
        case refine_13 =>
          have v7 : vals 7 = .bool false := hd 7 (by kernel_rfl)
          rw [v7]
          exact st_val rfl (by simp only [execOp]; first | (go_simp; done) | (go_simp; rfl)) rfl
        case refine_14 =>
          have v7 : vals 7 = .bool false := hd 7 (by kernel_rfl)
          rw [v7]
          exact st_val rfl (by simp only [execOp]; first | (go_simp; done) | (go_simp; rfl)) rfl
        case refine_15 =>
          have v7 : vals 7 = .bool false := hd 7 (by kernel_rfl)
          have v12 : vals 12 = .slice (some ad) m c := hd 12 (by kernel_rfl)
          have v13 : vals 13 = .int .i64 (k : Int) := hd 13 (by kernel_rfl)
          rw [v7, v12, v13]
          exact st_val rfl (by simp only [execOp]; go_simp; first | done | rfl | (simp [hki, hkm]; done) | (simp [hki, hkm]; rfl)) rfl
        case refine_16 =>
          have v7 : vals 7 = .bool false := hd 7 (by kernel_rfl)
          have v14 : vals 14 = .pointer (some (ad.add k)) := hd 14 (by kernel_rfl)
          rw [v7, v14]
          exact st_read hM rfl rfl rfl HCELL.out Tryz.isAgg5 rfl
        case refine_17 =>
          have v7 : vals 7 = .bool false := hd 7 (by kernel_rfl)
          have v15 : vals 15 = .int .u8 y := hd 15 (by kernel_rfl)
          rw [v7, v15]
          exact st_val rfl (by simp only [execOp]; first | (go_simp; done) | (go_simp; rfl)) rfl
        case refine_18 =>
          have v7 : vals 7 = .bool false := hd 7 (by kernel_rfl)
          have v16 : vals 16 = .int .u8 x' := hd 16 (by kernel_rfl)
          rw [v7, v16]
          exact st_val rfl (by simp only [execOp]; first | (go_simp; done) | (go_simp; rfl)) rfl
        case refine_19 =>
          have v7 : vals 7 = .bool false := hd 7 (by kernel_rfl)
          have v11 : vals 11 = .int .i64 x' := hd 11 (by kernel_rfl)
          have v17 : vals 17 = .int .i64 x' := hd 17 (by kernel_rfl)
          rw [v7, v11, v17]
          exact st_val rfl (by simp only [execOp]; first | (go_simp; done) | (go_simp; rfl)) rfl
        case refine_20 =>
          have v7 : vals 7 = .bool false := hd 7 (by kernel_rfl)
          have v18 : vals 18 = .bool false := hd 18 (by kernel_rfl)
          rw [v7, v18]
          exact st_val rfl (by simp only [execOp]; first | (go_simp; done) | (go_simp; rfl)) rfl
        case refine_21 =>
          have v0 : vals 0 = .bool true := hd 0 (by omega)
          have v19 : vals 19 = .bool false := hd 19 (by omega)
          rw [v0, v19]
          simp only [List.drop_succ_cons, List.drop_zero]
          have HO := hM
          have hI2 := HI2.out.below hb0
          clear hd hb0 hM
          go_wp2
          go_roundw
          case rel => exact ⟨k + 1, A2, c2, by have := HLT.out; omega, by first | rfl | (refine congrArg (Value.int .i64) ?_; have := HLT.out; have := H8.out; omega) | (refine congrArg (Value.int .i64) ?_; have := HLT.out; have := H8.out; unfold wrap64; omega), by rw [HLE.out]; exact HC2.out, by rw [HLE.out]; exact hI2, by rw [HXE.out, HLE.out]; exact HO.less (.cons_cons _ (.cons_cons _ (List.nil_sublist _)))⟩
          case measure => first | exact meas_len m k HLT.out | exact meas_n (by have := HLT.out; have := H8.out; unfold wrap64; omega) HLT.out
    · obtain rfl : k = m := by omega
      have d1 : decide ((k : Int) < (k : Int)) = false := decide_eq_false (by omega)
      obtain ⟨x, hx⟩ : ∃ x, F.getD k 0 = x := ⟨_, rfl⟩
      obtain ⟨ls, hls⟩ : ∃ ls, F.take k = ls := ⟨_, rfl⟩
      have hpop : popL x ls (k : Int) = (x0, []) := by
        rw [← hx, ← hls, pop_all (by have := HFL.out; omega), HF0.out]
      have hlsl : ls.length ≤ 100 := by rw [← hls, List.length_take]; have := H8.out; omega
      rw [hx, hls] at HO
      rw [hls] at hc9 hI9
      have hcc := fun (W : World) (hI : IntsI W A9 ls) (qA : Option Addr) (hq : SeqAt W qA [[(k : Int)]]) => do_pop Md.zero z12 rfl x A9 c9 ls hlsl hc9 W hI qA (k : Int) (by omega) hq
      rw [hpop] at hcc
      have HC := Lib.hid hcc
      have HX : (fun w' => IntsI w' A9 ls) wr := hI9
      clear hcc hpop hx hls hlsl hc9 hI9 hk hlt hx0 u1 u2
      go_wp2_with (first
        | (go_at_call 12; refine (HC.out _ HX (some ⟨g85, 0, none⟩) (rows_at (HO.at (by first | exact .head _ | exact .tail _ (.head _) | exact .tail _ (.tail _ (.head _)) | exact .tail _ (.tail _ (.tail _ (.head _))))) (HO.at (by first | exact .head _ | exact .tail _ (.head _) | exact .tail _ (.tail _ (.head _)) | exact .tail _ (.tail _ (.tail _ (.head _))))))).mono ?_; clear HX; rintro eN wN ⟨A3, c3, rfl, _, _, hbN⟩; have HON := HO.call hbN; clear HO hbN; have HO := HON; clear HON)
        | (go_at_call 18; refine (same_was x0 A3 c3 _).mono ?_; rintro eN wN ⟨rfl, hbN⟩; have HON := HO.call hbN; clear HO hbN; have HO := HON; clear HON)
        | ((with_reducible refine gate ?_); (first
          | ((refine own_load (T := 44) (vs := (stS Md.zero z12 x (.slice A9 ls.length c9))) HO rfl rfl rfl (by first | exact .head _ | exact .tail _ (.head _) | exact .tail _ (.tail _ (.head _)) | exact .tail _ (.tail _ (.tail _ (.head _))) | exact .tail _ (.tail _ (.tail _ (.tail _ (.head _))))) Tryz.isAgg44 Tryz.sizeOf44 (Slc.fullN (stS_len rfl)) ?_); (try simp only [Act.put, List.setIfInBounds_toArray, List.set_cons_zero, List.set_cons_succ]))
          | ((refine own_load (T := 44) (vs := (stS Md.zero z12 x0 (.slice A3 ([] : List Int).length c3))) HO rfl rfl rfl (by first | exact .head _ | exact .tail _ (.head _) | exact .tail _ (.tail _ (.head _)) | exact .tail _ (.tail _ (.tail _ (.head _))) | exact .tail _ (.tail _ (.tail _ (.tail _ (.head _))))) Tryz.isAgg44 Tryz.sizeOf44 (Slc.fullN (stS_len rfl)) ?_); (try simp only [Act.put, List.setIfInBounds_toArray, List.set_cons_zero, List.set_cons_succ]))
          | ((refine own_load (T := 44) (vs := (stS Md.zero z12 x0 (.slice none 0 0))) HO rfl rfl rfl (by first | exact .head _ | exact .tail _ (.head _) | exact .tail _ (.tail _ (.head _)) | exact .tail _ (.tail _ (.tail _ (.head _))) | exact .tail _ (.tail _ (.tail _ (.tail _ (.head _))))) Tryz.isAgg44 Tryz.sizeOf44 (Slc.fullN (stS_len rfl)) ?_); (try simp only [Act.put, List.setIfInBounds_toArray, List.set_cons_zero, List.set_cons_succ]))
          | ((refine own_store (T := 44) (vs := (stS Md.zero z12 x0 (.slice A3 ([] : List Int).length c3))) HO rfl rfl rfl rfl (by first | exact .here | exact .there (.here) | exact .there (.there (.here)) | exact .there (.there (.there (.here))) | exact .there (.there (.there (.there (.here))))) (size_at (stS_len rfl) Tryz.sizeOf44) (PutAt.full (by rfl)) (stS_one _ _ _ rfl) ?_); clear HO; intro wN HO; (try simp only [Act.put, List.setIfInBounds_toArray, List.set_cons_zero, List.set_cons_succ]))))
        | ((with_reducible refine gateAt (N := 84) rfl ?_); refine own_litFX HO HX (fun _ _ h hb => IntsI.below h hb) rfl (n := 1) (cs := [.int .i64 (k : Int)]) (T := 3) (by first | (go_simp; done) | (go_simp; rfl)) ?_; clear HO HX; intro g84 wN hgg84 HO HX; (try simp only [Act.put, List.setIfInBounds_toArray, List.set_cons_zero, List.set_cons_succ]))
        | ((with_reducible refine gateAt (N := 85) rfl ?_); refine own_litFX HO HX (fun _ _ h hb => IntsI.below h hb) rfl (n := 1) (cs := [.slice (some ⟨g84, 0, none⟩) 1 1]) (T := 26) (by first | (go_simp; done) | (go_simp; rfl)) ?_; clear HO HX; intro g85 wN hgg85 HO HX; (try simp only [Act.put, List.setIfInBounds_toArray, List.set_cons_zero, List.set_cons_succ]))
        | ((with_reducible refine gateAt (N := 15) rfl ?_); refine own_allocF (T := 44) (cs := stZero) HO rfl rfl Tryz.zeroValue44 rfl ?_; clear HO; intro g15 wN hgg15 HO; (try simp only [Act.put, List.setIfInBounds_toArray, List.set_cons_zero, List.set_cons_succ])))
      go_ret
      exact ⟨rfl, HO.below⟩
end Go.Proofs.YtdmifbffamckbaaGreatDoor
end
