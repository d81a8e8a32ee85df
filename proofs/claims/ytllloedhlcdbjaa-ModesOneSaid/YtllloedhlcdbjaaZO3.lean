/- O: texts run together by shake.py: OwE. -/
import Derived.ArgAppend
import Derived.Below
import Derived.BigQuiet
import Derived.ChangeKeysEq
import Derived.Deep.AppendLies
import Derived.Deep.CutBlock
import Derived.Deep.DeepCutAuto
import Derived.Deep.Draws
import Derived.Deep.LoopGhost
import Derived.Deep.OwnRows
import Derived.Deep.Quiet
import Derived.Deep.QuietTactic
import Derived.Deep.RegionHeld3
import Derived.Ground.GgzProg
import Derived.Ground.SlgmProg
import Derived.KernelRfl
import Derived.Laws.AppendOwn
import Derived.Laws.AppendOwnNone
import Derived.Laws.BitsLemmas
import Derived.Laws.BytesArg
import Derived.Laws.CopyRow
import Derived.Laws.IdiomCopy
import Derived.Laws.IdiomStrings
import Derived.Laws.MakeOwn
import Derived.Laws.OwnMore
import Derived.Laws.Rows
import Derived.Laws.Slices
import Derived.Laws.StructEq
import Derived.Lib.AppendStr
import Derived.Lib.ConvBytes
import Derived.Lib.Hide
import Derived.Lib.SlKeysI
import Derived.LoopIn
import Derived.LoopNIn
import Derived.MapKept
import Derived.Maps.AppendAt
import Derived.Maps.Own
import Derived.Orders
import Derived.OrdersHeld
import Derived.OrdersIn
import Derived.Outline
import Derived.OwnWalk
import Derived.OwnWalkIn
import Derived.RangeFuncBound
import Derived.RangeFuncBox
import Derived.RangeFuncCalls
import Derived.RangeFuncLeaves
import Derived.RangeFuncNested
import Derived.RangeFuncWrites
import Derived.RowKit
import Derived.RowKit3
import Derived.Shelf.Abstract
import Derived.Shelf.RegionOpen
import Derived.Shelf.SlIterI.Nil
import Derived.Shelf.Slices.Turned
import Derived.Shelf.SortM.Plain
import Derived.Shelf.SortM.SortNone
import Derived.Shelf.Strconv.Itoa0
import Derived.Still
import Derived.Tactics
import Derived.TacticsIn
import Derived.TacticsInMore
import Derived.Test.YtllloedhlcdbjaaProg
import Derived.WalkKit
import Derived.WalkLawsBesides
import Derived.WalkSpells
import Derived.WideLaws
import Derived.Test.YtllloedhlcdbjaaZO1
import Derived.Test.YtllloedhlcdbjaaZO2
section
namespace Go.Proofs.Ytllloedhlcdbjaa
set_option linter.unusedVariables false
set_option linter.unusedSimpArgs false
open Go.RowKit Kit Go.Proofs.YtllloedhlcdbjaaW.PrintWords
def oneAt (l : List Int) (h : Nat → Bool) : Nat → Md
  | 0 => Md.zero
  | k + 1 => (setM (oneAt l h k) true (l.getD k 0) (h k)).1
theorem oneAt_may (l : List Int) (h : Nat → Bool) : ∀ k, mayM (oneAt l h k) = true
  | 0 => rfl
  | k + 1 => mayM_set true _ _ (oneAt_may l h k)
def micN (F : Md) (k : Nat) : Nat := ((ownL.take k).filter fun x => isMouse x && getM F true x == 1).length
def codN (F : Md) (k : Nat) : Nat := ((ownL.take k).filter fun x => isCoding x && getM F true x == 1).length
theorem eq1 (F : Md) (x : Int) : (getM F true x == 1) = tOn F x := by unfold tOn; by_cases h : getM F true x = 1 <;> simp [h]
theorem micN_le (F : Md) (h : mayM F = true) : micN F 12 ≤ 1 := by
  obtain ⟨h1, _⟩ := may_sets h
  unfold micN
  simp only [eq1]
  have e9 := tOn_mouse F 9 rfl rfl
  have e0 := tOn_mouse F 1000 rfl rfl
  have e2 := tOn_mouse F 1002 rfl rfl
  have e3 := tOn_mouse F 1003 rfl rfl
  rcases h1 with h | h | h | h | h <;> rw [h] at e9 e0 e2 e3 <;> simp [ownL, isMouse, e9, e0, e2, e3]
theorem codN_le (F : Md) (h : mayM F = true) : codN F 12 ≤ 1 := by
  obtain ⟨_, h1⟩ := may_sets h
  unfold codN
  simp only [eq1]
  have e9 := tOn_coding F 1005 rfl rfl
  have e0 := tOn_coding F 1006 rfl rfl
  have e2 := tOn_coding F 1015 rfl rfl
  rcases h1 with h | h | h | h <;> rw [h] at e9 e0 e2 <;> simp [ownL, isCoding, e9, e0, e2]
theorem micN_12 (F : Md) (k : Nat) : micN F k ≤ 12 := Nat.le_trans (List.length_filter_le _ _) (by simp [ownL]; omega)
theorem codN_12 (F : Md) (k : Nat) : codN F k ≤ 12 := Nat.le_trans (List.length_filter_le _ _) (by simp [ownL]; omega)
theorem micN_succ (F : Md) (k : Nat) (hk : k < 12) (x : Int) (hx : ownL[k]? = some x) : micN F (k + 1) = micN F k + (if (isMouse x && getM F true x == 1) = true then 1 else 0) := by
  have hl : k < ownL.length := hk
  have e : ownL[k] = x := by simpa [hl] using hx
  unfold micN
  rw [List.take_succ_eq_append_getElem hl, List.filter_append, List.length_append, e]
  cases h : (isMouse x && getM F true x == 1) <;> simp [h]
theorem codN_succ (F : Md) (k : Nat) (hk : k < 12) (x : Int) (hx : ownL[k]? = some x) : codN F (k + 1) = codN F k + (if (isCoding x && getM F true x == 1) = true then 1 else 0) := by
  have hl : k < ownL.length := hk
  have e : ownL[k] = x := by simpa [hl] using hx
  unfold codN
  rw [List.take_succ_eq_append_getElem hl, List.filter_append, List.length_append, e]
  cases h : (isCoding x && getM F true x == 1) <;> simp [h]
theorem cnt_up (a b : Nat) (ha : a ≤ 12) (h : b = a + 1) : Value.int .i64 (wrap64 ((a : Int) + 1)) = .int .i64 (b : Int) := congrArg (Value.int .i64) (by subst h; unfold wrap64; omega)
theorem cnt_up' (a b : Nat) (ha : a ≤ 12) (h : b = a + 1) : Value.int .i64 ((a : Int) + 1) = .int .i64 (b : Int) := congrArg (Value.int .i64) (by subst h; omega)
attribute [local irreducible] wpList Calls wpQuiet
set_option maxRecDepth 100000 in
set_option maxHeartbeats 16000000 in
theorem modesOne_long (A : Option Addr) (c : Nat) (l : List Int) (B : Option Addr) (nB cB : Nat) (w : World) (hl : 40 < l.length) :
    Calls Try.prog 4 #[.slice A l.length c, .slice B nB cB] w fun e w' => e = .returned (.bool true) ∧ Below w.heap.size w w' := by
  have HO := Mine.start w
  have hc : decide ((l.length : Int) > 40) = true := decide_eq_true (by omega)
  have hc2 : decide (40 < (l.length : Int)) = true := hc
  have hc3 : decide (40 < l.length) = true := decide_eq_true hl
  clear hl
  go_enter Try.func4, Try.ntmps4
  go_wp2_with (first
      | (go_at_call 12; refine (awake06_calls _).mono ?_; rintro eN wN ⟨rfl, hbN⟩; have HON := HO.call hbN; clear HO hbN; have HO := HON; clear HON)
      | ((with_reducible refine gate ?_); (first
      | ((refine own_box HO rfl rfl rfl ?_); clear HO; intro gN wN hgN HO; (simp only [List.nil_append, List.cons_append] at HO); (try simp only [Act.put, List.setIfInBounds_toArray, List.set_cons_zero, List.set_cons_succ])))))
  go_ret
  exact ⟨rfl, HO.below⟩
set_option maxRecDepth 100000 in
set_option maxHeartbeats 16000000 in
theorem modesOne_short (A : Option Addr) (c : Nat) (l : List Int) (B : Option Addr) (nB cB : Nat) (w : World) (f : Nat → Bool) (hl : ¬ 40 < l.length) (hC : (Kd.int .i64).C w A l.length l) (hB : ∀ i, i < nB → ∃ ad, B = some ad ∧ w.cell? (ad.add i) = some (.bool (f i))) (hnB : nB ≤ 9223372036854775807) :
    Calls Try.prog 4 #[.slice A l.length c, .slice B nB cB] w fun e w' => e = .returned (.bool true) ∧ Below w.heap.size w w' := by
  have HO := Mine.start w
  have hc : decide ((l.length : Int) > 40) = false := decide_eq_false (by omega)
  have hc2 : decide (40 < (l.length : Int)) = false := hc
  have hc3 : decide (40 < l.length) = false := decide_eq_false hl
  have HLN : Hid (l.length ≤ 40) := Lib.hid (by omega)
  have HC := Lib.hid hC
  have HBN := Lib.hid hB
  have HNB := Lib.hid hnB
  clear hl hC hB hnB
  obtain ⟨h, hh⟩ : ∃ h : Nat → Bool, h = fun k => if nB ≤ k then true else f k := ⟨_, rfl⟩
  have HH := Lib.hid hh
  clear hh
  have hmay := oneAt_may l h l.length
  have HMAY := Lib.hid hmay
  clear hmay
  go_enter Try.func4, Try.ntmps4
  go_wp2_with (first
      | (go_at_call 12; refine (awake06_calls _).mono ?_; rintro eN wN ⟨rfl, hbN⟩; have HON := HO.call hbN; clear HO hbN; have HO := HON; clear HON)
      | ((with_reducible refine gate ?_); (first
      | ((with_reducible refine gateAt (N := 6) rfl ?_); refine own_alloc (T := 23) HO rfl rfl Try.zeroValue23 rfl ?_; clear HO; intro gW wN hggW HO; (simp only [List.nil_append, List.cons_append] at HO); (try simp only [Act.put, List.setIfInBounds_toArray, List.set_cons_zero, List.set_cons_succ]))
      | ((refine own_box HO rfl rfl rfl ?_); clear HO; intro gN wN hgN HO; (simp only [List.nil_append, List.cons_append] at HO); (try simp only [Act.put, List.setIfInBounds_toArray, List.set_cons_zero, List.set_cons_succ]))
      | ((refine own_load (T := 23) HO rfl rfl rfl (by first | exact .head _ | exact .tail _ (.head _) | exact .tail _ (.tail _ (.head _)) | exact .tail _ (.tail _ (.tail _ (.head _))) | exact .tail _ (.tail _ (.tail _ (.tail _ (.head _)))) | exact .tail _ (.tail _ (.tail _ (.tail _ (.tail _ (.head _)))))) Try.isAgg23 Try.sizeOf23 (by repeat constructor) ?_); (try simp only [Act.put, List.setIfInBounds_toArray, List.set_cons_zero, List.set_cons_succ]))
      | ((refine own_store (T := 23) HO rfl rfl rfl rfl (by first | exact .here | exact .there (.here) | exact .there (.there (.here)) | exact .there (.there (.there (.here))) | exact .there (.there (.there (.there (.here)))) | exact .there (.there (.there (.there (.there (.here)))))) Try.sizeOf23 (by repeat constructor) rfl ?_); clear HO; intro wN HO; (try simp only [Act.put, List.setIfInBounds_toArray, List.set_cons_zero, List.set_cons_succ])))))
  go_loopw [7] (fun i wr => ∃ k : Nat, k ≤ l.length ∧ i = .int .i64 (k : Int) ∧ Mine w wr [(gW, IsCells [.bool (oneAt l h k).cursor, .bool (oneAt l h k).keypad, .bool (oneAt l h k).back, .bool (oneAt l h k).focus, .bool (oneAt l h k).paste, .bool (oneAt l h k).lock, .bool (oneAt l h k).line, .int .i64 (oneAt l h k).mouse, .int .i64 (oneAt l h k).coding, .int .i64 (oneAt l h k).other] 23)]) (fun i _ => l.length - (intOf i).toNat)
  case atStart => exact ⟨0, Nat.zero_le _, rfl, HO⟩
  case round =>
    obtain ⟨k, hk, rfl, HOn⟩ := hrel
    clear HO
    have HO := HOn
    clear HOn
    by_cases hlt : k < l.length
    · have hkd : decide ((k : Int) < (l.length : Int)) = true := decide_eq_true (by omega)
      have hkd2 : decide (k < l.length) = true := decide_eq_true hlt
      have hki : (k : Int) < (l.length : Int) := by omega
      obtain ⟨ad, e, hcell⟩ := Kd.at_int HC.out (k : Int) (by omega) hki
      subst e
      rw [Int.toNat_natCast, rd_int' l k hlt] at hcell
      obtain ⟨x, hx⟩ : ∃ x, l.getD k 0 = x := ⟨_, rfl⟩
      rw [hx] at hcell
      have hnx : oneAt l h (k + 1) = (setM (oneAt l h k) true x (h k)).1 := by rw [← hx]; rfl
      obtain ⟨F, hF⟩ : ∃ F, oneAt l h k = F := ⟨_, rfl⟩
      rw [hF] at HO hnx
      have HCELL := Lib.hid hcell
      have HLT := Lib.hid hlt
      clear hcell hx hF hk hlt
      by_cases hnk : nB ≤ k
      · have hb1 : decide ((k : Int) ≥ (nB : Int)) = true := decide_eq_true (by omega)
        have hb2 : decide ((nB : Int) ≤ (k : Int)) = true := hb1
        have hb3 : decide (nB ≤ k) = true := decide_eq_true hnk
        have hhk : h k = true := by rw [HH.out]; exact if_pos hnk
        obtain ⟨b, hb⟩ : ∃ b, h k = b := ⟨_, rfl⟩
        obtain rfl : b = true := by rw [← hb, hhk]
        rw [hb] at hnx
        clear hb hhk hnk
        obtain ⟨⟨r, ok⟩, hr⟩ : ∃ p, setM F true x true = p := ⟨_, rfl⟩
        have hn2 : oneAt l h (k + 1) = r := by rw [hnx, hr]
        have HR2 := Lib.hid hr
        have HN2 := Lib.hid hn2
        clear hr hn2 hnx
        go_wp2
        obtain ⟨wB, hwB⟩ : ∃ wB, wr = wB := ⟨_, rfl⟩
        rw [hwB] at HO ⊢
        clear hwB
        have hlt2 : ∀ q ∈ [(gW, IsCells [.bool F.cursor, .bool F.keypad, .bool F.back, .bool F.focus, .bool F.paste, .bool F.lock, .bool F.line, .int .i64 F.mouse, .int .i64 F.coding, .int .i64 F.other] 23)], q.1 < _ := fun q hq => HO.lt hq
        have hW0 := HO.below.size
        have HL := Lib.hid hlt2
        have HW0 := Lib.hid hW0
        clear hlt2 hW0
        refine region_put 11 _ ([fIs (F.v), fIs (.slice (some ad) l.length c), fIs (.int .i64 (k : Int)), fIs (.pointer (some (ad.add k))), fIs (.int .i64 x), fIs (.bool true), fIs (.tuple #[r.v, .bool ok]), fIs (.tuple #[r.v, .bool ok]), fIs (r.v), fIs (.bool ok)] ++ fVar wB.heap.size 23 [.bool false, .bool false, .bool false, .bool false, .bool false, .bool false, .bool false, .int .i64 0, .int .i64 0, .int .i64 0] :: [fAny, fIs (.bool ok)]) ([fIs (F.v), fIs (.slice (some ad) l.length c), fIs (.int .i64 (k : Int)), fIs (.pointer (some (ad.add k))), fIs (.int .i64 x), fIs (.bool true), fIs (.tuple #[r.v, .bool ok]), fIs (.tuple #[r.v, .bool ok]), fIs (r.v), fIs (.bool ok)] ++ fVar wB.heap.size 23 [.bool r.cursor, .bool r.keypad, .bool r.back, .bool r.focus, .bool r.paste, .bool r.lock, .bool r.line, .int .i64 r.mouse, .int .i64 r.coding, .int .i64 r.other] :: [fAny, fIs (.bool ok)]) HO (by kernel_rfl) (by kernel_rfl) rfl (stays_cons (Stays.fIs _) (stays_cons (Stays.fIs _) (stays_cons (Stays.fIs _) (stays_cons (Stays.fIs _) (stays_cons (Stays.fIs _) (stays_cons (Stays.fIs _) (stays_cons (Stays.fIs _) (stays_cons (Stays.fIs _) (stays_cons (Stays.fIs _) (stays_cons (Stays.fIs _) (stays_cons (Stays.fVar _ _ _) (stays_cons (Stays.fAny) (stays_cons (Stays.fIs _) stays_nil))))))))))))) (stays_cons (Stays.fIs _) (stays_cons (Stays.fIs _) (stays_cons (Stays.fIs _) (stays_cons (Stays.fIs _) (stays_cons (Stays.fIs _) (stays_cons (Stays.fIs _) (stays_cons (Stays.fIs _) (stays_cons (Stays.fIs _) (stays_cons (Stays.fIs _) (stays_cons (Stays.fIs _) (stays_cons (Stays.fVar _ _ _) (stays_cons (Stays.fAny) (stays_cons (Stays.fIs _) stays_nil))))))))))))) (bs' := [(gW, IsCells [.bool F.cursor, .bool F.keypad, .bool F.back, .bool F.focus, .bool F.paste, .bool F.lock, .bool F.line, .int .i64 F.mouse, .int .i64 F.coding, .int .i64 F.other] 23)]) ?_
        intro vals A hA
        simp [fillL, dstOf, List.range, List.range.loop, Act.put] at hA
        subst hA
        refine ⟨⟨?_, ?_, ?_, ?_, ?_, ?_, ?_, ?_, ?_, ?_, ?_, ?_, ?_, trivial⟩, ?_⟩
        case refine_1 =>
          refine Owes.before (by decide) (by kernel_rfl) ?_
          intro W hd hM hb0
          exact st_load hM rfl rfl rfl (.head _) Try.isAgg23 Try.sizeOf23 (by repeat constructor) rfl
        case refine_2 =>
          refine Owes.before (by decide) (by kernel_rfl) ?_
          intro W hd hM hb0
          exact st_val rfl (by simp only [execOp]; first | (go_simp; done) | (go_simp; rfl)) rfl
        case refine_3 =>
          refine Owes.before (by decide) (by kernel_rfl) ?_
          intro W hd hM hb0
          exact st_val rfl (by simp only [execOp]; first | (go_simp; done) | (go_simp; rfl)) rfl
        case refine_4 =>
          refine Owes.before (by decide) (by kernel_rfl) ?_
          intro W hd hM hb0
          have v1 : vals 1 = .slice (some ad) l.length c := hd 1 (by kernel_rfl)
          have v2 : vals 2 = .int .i64 (k : Int) := hd 2 (by kernel_rfl)
          rw [v1, v2]
          have hki := hki
          exact st_val rfl (by simp only [execOp]; go_simp; first | done | rfl | (simp [hki]; done) | (simp [hki]; rfl)) rfl
        case refine_5 =>
          refine Owes.before (by decide) (by kernel_rfl) ?_
          intro W hd hM hb0
          have v3 : vals 3 = .pointer (some (ad.add k)) := hd 3 (by kernel_rfl)
          rw [v3]
          exact st_read hM rfl rfl rfl HCELL.out Try.isAgg3 rfl
        case refine_6 =>
          refine Owes.before (by decide) (by kernel_rfl) ?_
          intro W hd hM hb0
          exact st_val rfl (by simp only [execOp]; first | (go_simp; done) | (go_simp; rfl)) rfl
        case refine_7 =>
          refine Owes.before (by decide) (by kernel_rfl) ?_
          intro W hd hM hb0
          have v0 : vals 0 = F.v := hd 0 (by kernel_rfl)
          have v4 : vals 4 = .int .i64 x := hd 4 (by kernel_rfl)
          have v5 : vals 5 = .bool true := hd 5 (by kernel_rfl)
          rw [v0, v4, v5]
          exact st_call rfl (by simp only [execOp]; first | (go_simp; done) | (go_simp; rfl)) (set_calls' F true x true r ok HR2.out W) (by rintro e w' ⟨rfl, hb⟩; exact ⟨_, rfl, hb, rfl⟩)
        case refine_8 =>
          refine Owes.before (by decide) (by kernel_rfl) ?_
          intro W hd hM hb0
          have v6 : vals 6 = .tuple #[r.v, .bool ok] := hd 6 (by kernel_rfl)
          rw [v6]
          exact st_val rfl (by simp only [execOp]; first | (go_simp; done) | (go_simp; rfl)) rfl
        case refine_9 =>
          refine Owes.before (by decide) (by kernel_rfl) ?_
          intro W hd hM hb0
          have v7 : vals 7 = .tuple #[r.v, .bool ok] := hd 7 (by kernel_rfl)
          rw [v7]
          exact st_val rfl (by simp only [execOp]; first | (go_simp; done) | (go_simp; rfl)) rfl
        case refine_10 =>
          refine Owes.after (by decide) (by kernel_rfl) ?_
          intro W hd
          have v7 : vals 7 = .tuple #[r.v, .bool ok] := (hd 7 (by kernel_rfl)).elim id id
          rw [v7]
          exact st_pure rfl (fun w => by simp only [execOp]; first | (go_simp; done) | (go_simp; rfl)) ⟨rfl, rfl⟩
        case refine_11 =>
          refine Owes.before (by decide) (by kernel_rfl) ?_
          intro W hd hM hb0
          exact st_new (ob := .cells #[.bool false, .bool false, .bool false, .bool false, .bool false, .bool false, .bool false, .int .i64 0, .int .i64 0, .int .i64 0] 23 (0, 0)) rfl (by simp only [execOp]; first | (go_simp; done) | (go_simp; rfl)) (fun h => ⟨_, rfl, hb0.size, h⟩)
        case refine_12 =>
          refine Owes.store ?_
          intro W hd hM hb0
          have v8 : vals 8 = r.v := hd 8 (by kernel_rfl)
          rw [v8]
          exact new_stored (iA := 10) (cs := [.bool r.cursor, .bool r.keypad, .bool r.back, .bool r.focus, .bool r.paste, .bool r.lock, .bool r.line, .int .i64 r.mouse, .int .i64 r.coding, .int .i64 r.other]) hM HL.out HW0.out (hd 10 (by kernel_rfl)) rfl rfl rfl rfl rfl Try.sizeOf23 (PutAt.all _ _ rfl) rfl (pure_cons (Pure.fIs _) (pure_cons (Pure.fIs _) (pure_cons (Pure.fIs _) (pure_cons (Pure.fIs _) (pure_cons (Pure.fIs _) (pure_cons (Pure.fIs _) (pure_cons (Pure.fIs _) (pure_cons (Pure.fIs _) (pure_cons (Pure.fIs _) (pure_cons (Pure.fIs _) pure_nil)))))))))) (pure_cons (Pure.fAny) (pure_cons (Pure.fIs _) pure_nil)) (fun _ _ => trivial)
        case refine_13 =>
          refine Owes.after (by decide) (by kernel_rfl) ?_
          intro W hd
          have v9 : vals 9 = .bool ok := (hd 9 (by kernel_rfl)).elim id id
          rw [v9]
          exact st_pure rfl (fun w => by simp only [execOp]; first | (go_simp; done) | (go_simp; rfl)) ⟨rfl, rfl⟩
        case refine_14 =>
          intro W hd hM
          obtain ⟨gX, eX, hgeX, hgX⟩ : fVar wB.heap.size 23 [.bool r.cursor, .bool r.keypad, .bool r.back, .bool r.focus, .bool r.paste, .bool r.lock, .bool r.line, .int .i64 r.mouse, .int .i64 r.coding, .int .i64 r.other] (vals 10) W := hd 10 (by decide)
          have HO := hM.take (p := IsCells [.bool r.cursor, .bool r.keypad, .bool r.back, .bool r.focus, .bool r.paste, .bool r.lock, .bool r.line, .int .i64 r.mouse, .int .i64 r.coding, .int .i64 r.other] 23) HL.out HW0.out hgeX ⟨_, hgX, rfl⟩
          simp only [List.nil_append, List.cons_append] at HO
          rw [eX]
          clear hd hM hgX eX HL HW0
          go_wp2_with (first
                | ((with_reducible refine gate ?_); (first
                | ((refine own_box HO rfl rfl rfl ?_); clear HO; intro gN wN hgN HO; (simp only [List.nil_append, List.cons_append] at HO); (try simp only [Act.put, List.setIfInBounds_toArray, List.set_cons_zero, List.set_cons_succ]))
                | ((refine own_load (T := 23) HO rfl rfl rfl (by first | exact .head _ | exact .tail _ (.head _) | exact .tail _ (.tail _ (.head _)) | exact .tail _ (.tail _ (.tail _ (.head _))) | exact .tail _ (.tail _ (.tail _ (.tail _ (.head _)))) | exact .tail _ (.tail _ (.tail _ (.tail _ (.tail _ (.head _)))))) Try.isAgg23 Try.sizeOf23 (by repeat constructor) ?_); (try simp only [Act.put, List.setIfInBounds_toArray, List.set_cons_zero, List.set_cons_succ]))
                | ((refine own_store (T := 23) HO rfl rfl rfl rfl (by first | exact .here | exact .there (.here) | exact .there (.there (.here)) | exact .there (.there (.there (.here))) | exact .there (.there (.there (.there (.here)))) | exact .there (.there (.there (.there (.there (.here)))))) Try.sizeOf23 (by repeat constructor) rfl ?_); clear HO; intro wN HO; (try simp only [Act.put, List.setIfInBounds_toArray, List.set_cons_zero, List.set_cons_succ])))))
          go_roundw
          case rel =>
            refine ⟨k + 1, by have := HLT.out; omega, by first | exact rfl | (refine congrArg (Value.int .i64) ?_; have := HLT.out; have := HLN.out; unfold wrap64; omega), ?_⟩
            rw [HN2.out]
            exact HO.less (.cons_cons _ (.cons _ .slnil))
          case measure => first | exact meas_len l.length k HLT.out | exact meas_wrap l.length k HLT.out (by have := HLN.out; omega)
      · have hb1 : decide ((k : Int) ≥ (nB : Int)) = false := decide_eq_false (by omega)
        have hb2 : decide ((nB : Int) ≤ (k : Int)) = false := hb1
        have hb3 : decide (nB ≤ k) = false := decide_eq_false hnk
        have hki2 : (k : Int) < (nB : Int) := by omega
        obtain ⟨ad2, e2, hcell2⟩ := HBN.out k (by omega)
        subst e2
        have hhk : h k = f k := by rw [HH.out]; exact if_neg hnk
        obtain ⟨b, hb⟩ : ∃ b, f k = b := ⟨_, rfl⟩
        rw [hhk, hb] at hnx
        rw [hb] at hcell2
        have hcw := (HO.below.cell (World.block_lt_of_cell? w _ hcell2)).trans hcell2
        clear hb hhk hnk hcell2
        obtain ⟨⟨r, ok⟩, hr⟩ : ∃ p, setM F true x b = p := ⟨_, rfl⟩
        have hn2 : oneAt l h (k + 1) = r := by rw [hnx, hr]
        have HR2 := Lib.hid hr
        have HN2 := Lib.hid hn2
        clear hr hn2 hnx
        go_wp2
        obtain ⟨wB, hwB⟩ : ∃ wB, wr = wB := ⟨_, rfl⟩
        rw [hwB] at HO ⊢
        clear hwB
        have hlt2 : ∀ q ∈ [(gW, IsCells [.bool F.cursor, .bool F.keypad, .bool F.back, .bool F.focus, .bool F.paste, .bool F.lock, .bool F.line, .int .i64 F.mouse, .int .i64 F.coding, .int .i64 F.other] 23)], q.1 < _ := fun q hq => HO.lt hq
        have hW0 := HO.below.size
        have HL := Lib.hid hlt2
        have HW0 := Lib.hid hW0
        clear hlt2 hW0
        refine region_put 11 _ ([fIs (F.v), fIs (.slice (some ad) l.length c), fIs (.int .i64 (k : Int)), fIs (.pointer (some (ad.add k))), fIs (.int .i64 x), fIs (.bool b), fIs (.tuple #[r.v, .bool ok]), fIs (.tuple #[r.v, .bool ok]), fIs (r.v), fIs (.bool ok)] ++ fVar wB.heap.size 23 [.bool false, .bool false, .bool false, .bool false, .bool false, .bool false, .bool false, .int .i64 0, .int .i64 0, .int .i64 0] :: [fAny, fIs (.bool ok)]) ([fIs (F.v), fIs (.slice (some ad) l.length c), fIs (.int .i64 (k : Int)), fIs (.pointer (some (ad.add k))), fIs (.int .i64 x), fIs (.bool b), fIs (.tuple #[r.v, .bool ok]), fIs (.tuple #[r.v, .bool ok]), fIs (r.v), fIs (.bool ok)] ++ fVar wB.heap.size 23 [.bool r.cursor, .bool r.keypad, .bool r.back, .bool r.focus, .bool r.paste, .bool r.lock, .bool r.line, .int .i64 r.mouse, .int .i64 r.coding, .int .i64 r.other] :: [fAny, fIs (.bool ok)]) HO (by kernel_rfl) (by kernel_rfl) rfl (stays_cons (Stays.fIs _) (stays_cons (Stays.fIs _) (stays_cons (Stays.fIs _) (stays_cons (Stays.fIs _) (stays_cons (Stays.fIs _) (stays_cons (Stays.fIs _) (stays_cons (Stays.fIs _) (stays_cons (Stays.fIs _) (stays_cons (Stays.fIs _) (stays_cons (Stays.fIs _) (stays_cons (Stays.fVar _ _ _) (stays_cons (Stays.fAny) (stays_cons (Stays.fIs _) stays_nil))))))))))))) (stays_cons (Stays.fIs _) (stays_cons (Stays.fIs _) (stays_cons (Stays.fIs _) (stays_cons (Stays.fIs _) (stays_cons (Stays.fIs _) (stays_cons (Stays.fIs _) (stays_cons (Stays.fIs _) (stays_cons (Stays.fIs _) (stays_cons (Stays.fIs _) (stays_cons (Stays.fIs _) (stays_cons (Stays.fVar _ _ _) (stays_cons (Stays.fAny) (stays_cons (Stays.fIs _) stays_nil))))))))))))) (bs' := [(gW, IsCells [.bool F.cursor, .bool F.keypad, .bool F.back, .bool F.focus, .bool F.paste, .bool F.lock, .bool F.line, .int .i64 F.mouse, .int .i64 F.coding, .int .i64 F.other] 23)]) ?_
        intro vals A hA
        simp [fillL, dstOf, List.range, List.range.loop, Act.put] at hA
        subst hA
        refine ⟨⟨?_, ?_, ?_, ?_, ?_, ?_, ?_, ?_, ?_, ?_, ?_, ?_, ?_, trivial⟩, ?_⟩
        case refine_1 =>
          refine Owes.before (by decide) (by kernel_rfl) ?_
          intro W hd hM hb0
          exact st_load hM rfl rfl rfl (.head _) Try.isAgg23 Try.sizeOf23 (by repeat constructor) rfl
        case refine_2 =>
          refine Owes.before (by decide) (by kernel_rfl) ?_
          intro W hd hM hb0
          exact st_val rfl (by simp only [execOp]; first | (go_simp; done) | (go_simp; rfl)) rfl
        case refine_3 =>
          refine Owes.before (by decide) (by kernel_rfl) ?_
          intro W hd hM hb0
          exact st_val rfl (by simp only [execOp]; first | (go_simp; done) | (go_simp; rfl)) rfl
        case refine_4 =>
          refine Owes.before (by decide) (by kernel_rfl) ?_
          intro W hd hM hb0
          have v1 : vals 1 = .slice (some ad) l.length c := hd 1 (by kernel_rfl)
          have v2 : vals 2 = .int .i64 (k : Int) := hd 2 (by kernel_rfl)
          rw [v1, v2]
          have hki := hki
          exact st_val rfl (by simp only [execOp]; go_simp; first | done | rfl | (simp [hki]; done) | (simp [hki]; rfl)) rfl
        case refine_5 =>
          refine Owes.before (by decide) (by kernel_rfl) ?_
          intro W hd hM hb0
          have v3 : vals 3 = .pointer (some (ad.add k)) := hd 3 (by kernel_rfl)
          rw [v3]
          exact st_read hM rfl rfl rfl HCELL.out Try.isAgg3 rfl
        case refine_6 =>
          refine Owes.before (by decide) (by kernel_rfl) ?_
          intro W hd hM hb0
          exact st_val rfl (by simp only [execOp]; first | (go_simp; done) | (go_simp; rfl)) rfl
        case refine_7 =>
          refine Owes.before (by decide) (by kernel_rfl) ?_
          intro W hd hM hb0
          have v0 : vals 0 = F.v := hd 0 (by kernel_rfl)
          have v4 : vals 4 = .int .i64 x := hd 4 (by kernel_rfl)
          have v5 : vals 5 = .bool b := hd 5 (by kernel_rfl)
          rw [v0, v4, v5]
          exact st_call rfl (by simp only [execOp]; first | (go_simp; done) | (go_simp; rfl)) (set_calls' F true x b r ok HR2.out W) (by rintro e w' ⟨rfl, hb⟩; exact ⟨_, rfl, hb, rfl⟩)
        case refine_8 =>
          refine Owes.before (by decide) (by kernel_rfl) ?_
          intro W hd hM hb0
          have v6 : vals 6 = .tuple #[r.v, .bool ok] := hd 6 (by kernel_rfl)
          rw [v6]
          exact st_val rfl (by simp only [execOp]; first | (go_simp; done) | (go_simp; rfl)) rfl
        case refine_9 =>
          refine Owes.before (by decide) (by kernel_rfl) ?_
          intro W hd hM hb0
          have v7 : vals 7 = .tuple #[r.v, .bool ok] := hd 7 (by kernel_rfl)
          rw [v7]
          exact st_val rfl (by simp only [execOp]; first | (go_simp; done) | (go_simp; rfl)) rfl
        case refine_10 =>
          refine Owes.after (by decide) (by kernel_rfl) ?_
          intro W hd
          have v7 : vals 7 = .tuple #[r.v, .bool ok] := (hd 7 (by kernel_rfl)).elim id id
          rw [v7]
          exact st_pure rfl (fun w => by simp only [execOp]; first | (go_simp; done) | (go_simp; rfl)) ⟨rfl, rfl⟩
        case refine_11 =>
          refine Owes.before (by decide) (by kernel_rfl) ?_
          intro W hd hM hb0
          exact st_new (ob := .cells #[.bool false, .bool false, .bool false, .bool false, .bool false, .bool false, .bool false, .int .i64 0, .int .i64 0, .int .i64 0] 23 (0, 0)) rfl (by simp only [execOp]; first | (go_simp; done) | (go_simp; rfl)) (fun h => ⟨_, rfl, hb0.size, h⟩)
        case refine_12 =>
          refine Owes.store ?_
          intro W hd hM hb0
          have v8 : vals 8 = r.v := hd 8 (by kernel_rfl)
          rw [v8]
          exact new_stored (iA := 10) (cs := [.bool r.cursor, .bool r.keypad, .bool r.back, .bool r.focus, .bool r.paste, .bool r.lock, .bool r.line, .int .i64 r.mouse, .int .i64 r.coding, .int .i64 r.other]) hM HL.out HW0.out (hd 10 (by kernel_rfl)) rfl rfl rfl rfl rfl Try.sizeOf23 (PutAt.all _ _ rfl) rfl (pure_cons (Pure.fIs _) (pure_cons (Pure.fIs _) (pure_cons (Pure.fIs _) (pure_cons (Pure.fIs _) (pure_cons (Pure.fIs _) (pure_cons (Pure.fIs _) (pure_cons (Pure.fIs _) (pure_cons (Pure.fIs _) (pure_cons (Pure.fIs _) (pure_cons (Pure.fIs _) pure_nil)))))))))) (pure_cons (Pure.fAny) (pure_cons (Pure.fIs _) pure_nil)) (fun _ _ => trivial)
        case refine_13 =>
          refine Owes.after (by decide) (by kernel_rfl) ?_
          intro W hd
          have v9 : vals 9 = .bool ok := (hd 9 (by kernel_rfl)).elim id id
          rw [v9]
          exact st_pure rfl (fun w => by simp only [execOp]; first | (go_simp; done) | (go_simp; rfl)) ⟨rfl, rfl⟩
        case refine_14 =>
          intro W hd hM
          obtain ⟨gX, eX, hgeX, hgX⟩ : fVar wB.heap.size 23 [.bool r.cursor, .bool r.keypad, .bool r.back, .bool r.focus, .bool r.paste, .bool r.lock, .bool r.line, .int .i64 r.mouse, .int .i64 r.coding, .int .i64 r.other] (vals 10) W := hd 10 (by decide)
          have HO := hM.take (p := IsCells [.bool r.cursor, .bool r.keypad, .bool r.back, .bool r.focus, .bool r.paste, .bool r.lock, .bool r.line, .int .i64 r.mouse, .int .i64 r.coding, .int .i64 r.other] 23) HL.out HW0.out hgeX ⟨_, hgX, rfl⟩
          simp only [List.nil_append, List.cons_append] at HO
          rw [eX]
          clear hd hM hgX eX HL HW0
          go_wp2_with (first
                | ((with_reducible refine gate ?_); (first
                | ((refine own_box HO rfl rfl rfl ?_); clear HO; intro gN wN hgN HO; (simp only [List.nil_append, List.cons_append] at HO); (try simp only [Act.put, List.setIfInBounds_toArray, List.set_cons_zero, List.set_cons_succ]))
                | ((refine own_load (T := 23) HO rfl rfl rfl (by first | exact .head _ | exact .tail _ (.head _) | exact .tail _ (.tail _ (.head _)) | exact .tail _ (.tail _ (.tail _ (.head _))) | exact .tail _ (.tail _ (.tail _ (.tail _ (.head _)))) | exact .tail _ (.tail _ (.tail _ (.tail _ (.tail _ (.head _)))))) Try.isAgg23 Try.sizeOf23 (by repeat constructor) ?_); (try simp only [Act.put, List.setIfInBounds_toArray, List.set_cons_zero, List.set_cons_succ]))
                | ((refine own_store (T := 23) HO rfl rfl rfl rfl (by first | exact .here | exact .there (.here) | exact .there (.there (.here)) | exact .there (.there (.there (.here))) | exact .there (.there (.there (.there (.here)))) | exact .there (.there (.there (.there (.there (.here)))))) Try.sizeOf23 (by repeat constructor) rfl ?_); clear HO; intro wN HO; (try simp only [Act.put, List.setIfInBounds_toArray, List.set_cons_zero, List.set_cons_succ])))))
          go_roundw
          case rel =>
            refine ⟨k + 1, by have := HLT.out; omega, by first | exact rfl | (refine congrArg (Value.int .i64) ?_; have := HLT.out; have := HLN.out; unfold wrap64; omega), ?_⟩
            rw [HN2.out]
            exact HO.less (.cons_cons _ (.cons _ .slnil))
          case measure => first | exact meas_len l.length k HLT.out | exact meas_wrap l.length k HLT.out (by have := HLN.out; omega)
    · obtain rfl : k = l.length := by omega
      have hkd : decide ((l.length : Int) < (l.length : Int)) = false := decide_eq_false (by omega)
      obtain ⟨F, hF⟩ : ∃ F, oneAt l h l.length = F := ⟨_, rfl⟩
      rw [hF] at HO HMAY
      clear hF hlt hk HH
      go_wp2_with (first
            | (go_at_call 14; refine (own_calls _).mono ?_; rintro eN wN ⟨v, rfl, ⟨gL, cpgL, rsL, rfl, hge, hgL, hcp⟩, hbN⟩; have HCP := Lib.hid hcp; clear hcp; have HON := (HO.call hbN).take (p := IsCells (Value.int .i64 1 :: Value.int .i64 9 :: Value.int .i64 66 :: Value.int .i64 67 :: Value.int .i64 1000 :: Value.int .i64 1002 :: Value.int .i64 1003 :: Value.int .i64 1004 :: Value.int .i64 1005 :: Value.int .i64 1006 :: Value.int .i64 1015 :: Value.int .i64 2004 :: rsL) 3) (fun q hq => HO.lt hq) HO.below.size hge ⟨_, hgL, rfl⟩; clear HO hbN hgL hge; have HO := HON; clear HON; (simp only [List.nil_append, List.cons_append] at HO))
            | ((with_reducible refine gate ?_); (first
            | ((refine own_box HO rfl rfl rfl ?_); clear HO; intro gN wN hgN HO; (simp only [List.nil_append, List.cons_append] at HO); (try simp only [Act.put, List.setIfInBounds_toArray, List.set_cons_zero, List.set_cons_succ]))
            | ((refine own_load (T := 23) HO rfl rfl rfl (by first | exact .head _ | exact .tail _ (.head _) | exact .tail _ (.tail _ (.head _)) | exact .tail _ (.tail _ (.tail _ (.head _))) | exact .tail _ (.tail _ (.tail _ (.tail _ (.head _)))) | exact .tail _ (.tail _ (.tail _ (.tail _ (.tail _ (.head _)))))) Try.isAgg23 Try.sizeOf23 (by repeat constructor) ?_); (try simp only [Act.put, List.setIfInBounds_toArray, List.set_cons_zero, List.set_cons_succ]))
            | ((refine own_store (T := 23) HO rfl rfl rfl rfl (by first | exact .here | exact .there (.here) | exact .there (.there (.here)) | exact .there (.there (.there (.here))) | exact .there (.there (.there (.there (.here)))) | exact .there (.there (.there (.there (.there (.here)))))) Try.sizeOf23 (by repeat constructor) rfl ?_); clear HO; intro wN HO; (try simp only [Act.put, List.setIfInBounds_toArray, List.set_cons_zero, List.set_cons_succ])))))
      go_loopw [11, 12, 14] (fun a b i wr => ∃ k : Nat, k ≤ 12 ∧ a = .int .i64 (micN F k : Int) ∧ b = .int .i64 (codN F k : Int) ∧ i = .int .i64 (k : Int) ∧ Mine w wr [(gW, IsCells [.bool F.cursor, .bool F.keypad, .bool F.back, .bool F.focus, .bool F.paste, .bool F.lock, .bool F.line, .int .i64 F.mouse, .int .i64 F.coding, .int .i64 F.other] 23), (gL, IsCells (Value.int .i64 1 :: Value.int .i64 9 :: Value.int .i64 66 :: Value.int .i64 67 :: Value.int .i64 1000 :: Value.int .i64 1002 :: Value.int .i64 1003 :: Value.int .i64 1004 :: Value.int .i64 1005 :: Value.int .i64 1006 :: Value.int .i64 1015 :: Value.int .i64 2004 :: rsL) 3)]) (fun _ _ i _ => 12 - (intOf i).toNat)
      case atStart => exact ⟨0, by omega, rfl, rfl, rfl, HO⟩
      case round =>
        obtain ⟨k, hk, rfl, rfl, rfl, HOn⟩ := hrel
        clear HO
        have HO := HOn
        clear HOn
        by_cases hlt : k < 12
        · have hcs : k = 0 ∨ k = 1 ∨ k = 2 ∨ k = 3 ∨ k = 4 ∨ k = 5 ∨ k = 6 ∨ k = 7 ∨ k = 8 ∨ k = 9 ∨ k = 10 ∨ k = 11 := by omega
          clear hlt hk
          rcases hcs with rfl | rfl | rfl | rfl | rfl | rfl | rfl | rfl | rfl | rfl | rfl | rfl
          · by_cases h1 : getM F true 1 = 1
            · have hg : getM F true 1 = 1 := h1
              have G1 := Lib.hid hg
              have hm : micN F 1 = micN F 0 := by rw [micN_succ F 0 (by decide) 1 rfl]; simp [isMouse, hg]
              have hc : codN F 1 = codN F 0 := by rw [codN_succ F 0 (by decide) 1 rfl]; simp [isCoding, hg]
              have HM2 := Lib.hid hm
              have HC2 := Lib.hid hc
              have ha := micN_12 F 0
              have hb := codN_12 F 0
              have HA := Lib.hid ha
              have HB2 := Lib.hid hb
              obtain ⟨a, hae⟩ : ∃ a, micN F 0 = a := ⟨_, rfl⟩
              obtain ⟨b, hbe⟩ : ∃ b, codN F 0 = b := ⟨_, rfl⟩
              rw [hae] at HM2 HA ⊢
              rw [hbe] at HC2 HB2 ⊢
              clear hm hc ha hb hae hbe h1 hg
              go_wp2
              (refine region_quiet HO (by kernel_rfl) (by kernel_rfl) ?_); repeat (first
      | (go_big_quiet_skip)
      | ((with_reducible refine qg_move ?_); (refine q_move rfl rfl (by first | exact .const | exact .tmp rfl | exact .func) ?_); (try simp only [Act.put, List.setIfInBounds_toArray, List.set_cons_zero, List.set_cons_succ]))
      | ((with_reducible refine qg_assign ?_); (refine q_assign rfl rfl (by first | exact .const | exact .tmp rfl | exact .func) ?_); (try simp only [Act.put, List.setIfInBounds_toArray, List.set_cons_zero, List.set_cons_succ]))
      | ((with_reducible refine qg_pick ?_); (refine q_pick_true rfl rfl rfl (by first | exact .const | exact .tmp rfl | exact .func) ?_); (try simp only [Act.put, List.setIfInBounds_toArray, List.set_cons_zero, List.set_cons_succ]))
      | ((with_reducible refine qg_pick ?_); (refine q_pick_false rfl rfl rfl (by first | exact .const | exact .tmp rfl | exact .func) ?_); (try simp only [Act.put, List.setIfInBounds_toArray, List.set_cons_zero, List.set_cons_succ]))
      | ((with_reducible refine qg_load ?_); (refine q_load (T := 23) rfl rfl rfl (by first | exact .head _ | exact .tail _ (.head _) | exact .tail _ (.tail _ (.head _)) | exact .tail _ (.tail _ (.tail _ (.head _))) | exact .tail _ (.tail _ (.tail _ (.tail _ (.head _)))) | exact .tail _ (.tail _ (.tail _ (.tail _ (.tail _ (.head _)))))) Try.isAgg23 Try.sizeOf23 (by repeat constructor) ?_); (try simp only [Act.put, List.setIfInBounds_toArray, List.set_cons_zero, List.set_cons_succ]))
      | ((with_reducible refine qg_load ?_); (refine q_load1 (T := 3) rfl rfl rfl (by first | exact .head _ | exact .tail _ (.head _) | exact .tail _ (.tail _ (.head _)) | exact .tail _ (.tail _ (.tail _ (.head _))) | exact .tail _ (.tail _ (.tail _ (.tail _ (.head _)))) | exact .tail _ (.tail _ (.tail _ (.tail _ (.tail _ (.head _)))))) Try.isAgg3 rfl ?_); (try simp only [Act.put, List.setIfInBounds_toArray, List.set_cons_zero, List.set_cons_succ]))
      | ((with_reducible refine qg_call ?_); (refine q_call (f := 15) rfl rfl Try.call15 rfl (fun wN HON => (get_calls' F true 1 1 G1.out wN)) ?_); (try simp only [Act.put, List.setIfInBounds_toArray, List.set_cons_zero, List.set_cons_succ]))
      | ((refine q_val rfl (fun w => by simp only [execOp]; first | (go_simp; done) | (go_simp; rfl)) ?_); (try simp only [Act.put, List.setIfInBounds_toArray, List.set_cons_zero, List.set_cons_succ])))
              refine wpQuiet_nil ?_
              intro wZ HOz; clear HO; have HO := HOz; clear HOz
              go_wp2_with (first
      | ((with_reducible refine gate ?_); (first
      | ((refine own_box HO rfl rfl rfl ?_); clear HO; intro gN wN hgN HO; (simp only [List.nil_append, List.cons_append] at HO); (try simp only [Act.put, List.setIfInBounds_toArray, List.set_cons_zero, List.set_cons_succ]))
      | ((refine own_load1 (T := 3) HO rfl rfl rfl (by first | exact .head _ | exact .tail _ (.head _) | exact .tail _ (.tail _ (.head _)) | exact .tail _ (.tail _ (.tail _ (.head _))) | exact .tail _ (.tail _ (.tail _ (.tail _ (.head _)))) | exact .tail _ (.tail _ (.tail _ (.tail _ (.tail _ (.head _)))))) Try.isAgg3 rfl ?_); (try simp only [Act.put, List.setIfInBounds_toArray, List.set_cons_zero, List.set_cons_succ]))
      | ((refine own_store (T := 3) HO rfl rfl rfl rfl (by first | exact .here | exact .there (.here) | exact .there (.there (.here)) | exact .there (.there (.there (.here))) | exact .there (.there (.there (.there (.here)))) | exact .there (.there (.there (.there (.there (.here)))))) Try.sizeOf3 (by repeat constructor) rfl ?_); clear HO; intro wN HO; (try simp only [Act.put, List.setIfInBounds_toArray, List.set_cons_zero, List.set_cons_succ])))))
              go_roundw
              case rel => exact ⟨1, by omega, by rw [HM2.out], by rw [HC2.out], rfl, HO⟩
              case measure => exact meas12 0 (by omega)
            · obtain ⟨gx, hgx⟩ : ∃ gx, getM F true 1 = gx := ⟨_, rfl⟩
              have hm : micN F 1 = micN F 0 := by rw [micN_succ F 0 (by decide) 1 rfl]; simp [isMouse, h1]
              have hc : codN F 1 = codN F 0 := by rw [codN_succ F 0 (by decide) 1 rfl]; simp [isCoding, h1]
              rw [hgx] at h1
              have b1 : (gx != 1) = true := bne_iff_ne.2 h1
              have b2 : (gx == 1) = false := beq_eq_false_iff_ne.2 h1
              have G1 := Lib.hid hgx
              clear hgx
              have HM2 := Lib.hid hm
              have HC2 := Lib.hid hc
              have ha := micN_12 F 0
              have hb := codN_12 F 0
              have HA := Lib.hid ha
              have HB2 := Lib.hid hb
              obtain ⟨a, hae⟩ : ∃ a, micN F 0 = a := ⟨_, rfl⟩
              obtain ⟨b, hbe⟩ : ∃ b, codN F 0 = b := ⟨_, rfl⟩
              rw [hae] at HM2 HA ⊢
              rw [hbe] at HC2 HB2 ⊢
              clear hm hc ha hb hae hbe h1
              go_wp2
              (refine region_quiet HO (by kernel_rfl) (by kernel_rfl) ?_); repeat (first
      | (go_big_quiet_skip)
      | ((with_reducible refine qg_move ?_); (refine q_move rfl rfl (by first | exact .const | exact .tmp rfl | exact .func) ?_); (try simp only [Act.put, List.setIfInBounds_toArray, List.set_cons_zero, List.set_cons_succ]))
      | ((with_reducible refine qg_assign ?_); (refine q_assign rfl rfl (by first | exact .const | exact .tmp rfl | exact .func) ?_); (try simp only [Act.put, List.setIfInBounds_toArray, List.set_cons_zero, List.set_cons_succ]))
      | ((with_reducible refine qg_pick ?_); (refine q_pick_true rfl rfl rfl (by first | exact .const | exact .tmp rfl | exact .func) ?_); (try simp only [Act.put, List.setIfInBounds_toArray, List.set_cons_zero, List.set_cons_succ]))
      | ((with_reducible refine qg_pick ?_); (refine q_pick_false rfl rfl rfl (by first | exact .const | exact .tmp rfl | exact .func) ?_); (try simp only [Act.put, List.setIfInBounds_toArray, List.set_cons_zero, List.set_cons_succ]))
      | ((with_reducible refine qg_load ?_); (refine q_load (T := 23) rfl rfl rfl (by first | exact .head _ | exact .tail _ (.head _) | exact .tail _ (.tail _ (.head _)) | exact .tail _ (.tail _ (.tail _ (.head _))) | exact .tail _ (.tail _ (.tail _ (.tail _ (.head _)))) | exact .tail _ (.tail _ (.tail _ (.tail _ (.tail _ (.head _)))))) Try.isAgg23 Try.sizeOf23 (by repeat constructor) ?_); (try simp only [Act.put, List.setIfInBounds_toArray, List.set_cons_zero, List.set_cons_succ]))
      | ((with_reducible refine qg_load ?_); (refine q_load1 (T := 3) rfl rfl rfl (by first | exact .head _ | exact .tail _ (.head _) | exact .tail _ (.tail _ (.head _)) | exact .tail _ (.tail _ (.tail _ (.head _))) | exact .tail _ (.tail _ (.tail _ (.tail _ (.head _)))) | exact .tail _ (.tail _ (.tail _ (.tail _ (.tail _ (.head _)))))) Try.isAgg3 rfl ?_); (try simp only [Act.put, List.setIfInBounds_toArray, List.set_cons_zero, List.set_cons_succ]))
      | ((with_reducible refine qg_call ?_); (refine q_call (f := 15) rfl rfl Try.call15 rfl (fun wN HON => (get_calls' F true 1 gx G1.out wN)) ?_); (try simp only [Act.put, List.setIfInBounds_toArray, List.set_cons_zero, List.set_cons_succ]))
      | ((refine q_val rfl (fun w => by simp only [execOp]; first | (go_simp; done) | (go_simp; rfl)) ?_); (try simp only [Act.put, List.setIfInBounds_toArray, List.set_cons_zero, List.set_cons_succ])))
              refine wpQuiet_nil ?_
              intro wZ HOz; clear HO; have HO := HOz; clear HOz
              go_wp2_with (first
      | ((with_reducible refine gate ?_); (first
      | ((refine own_box HO rfl rfl rfl ?_); clear HO; intro gN wN hgN HO; (simp only [List.nil_append, List.cons_append] at HO); (try simp only [Act.put, List.setIfInBounds_toArray, List.set_cons_zero, List.set_cons_succ]))
      | ((refine own_load1 (T := 3) HO rfl rfl rfl (by first | exact .head _ | exact .tail _ (.head _) | exact .tail _ (.tail _ (.head _)) | exact .tail _ (.tail _ (.tail _ (.head _))) | exact .tail _ (.tail _ (.tail _ (.tail _ (.head _)))) | exact .tail _ (.tail _ (.tail _ (.tail _ (.tail _ (.head _)))))) Try.isAgg3 rfl ?_); (try simp only [Act.put, List.setIfInBounds_toArray, List.set_cons_zero, List.set_cons_succ]))
      | ((refine own_store (T := 3) HO rfl rfl rfl rfl (by first | exact .here | exact .there (.here) | exact .there (.there (.here)) | exact .there (.there (.there (.here))) | exact .there (.there (.there (.there (.here)))) | exact .there (.there (.there (.there (.there (.here)))))) Try.sizeOf3 (by repeat constructor) rfl ?_); clear HO; intro wN HO; (try simp only [Act.put, List.setIfInBounds_toArray, List.set_cons_zero, List.set_cons_succ])))))
              go_roundw
              case rel => exact ⟨1, by omega, by rw [HM2.out], by rw [HC2.out], rfl, HO⟩
              case measure => exact meas12 0 (by omega)
          · by_cases h1 : getM F true 9 = 1
            · have hg : getM F true 9 = 1 := h1
              have G1 := Lib.hid hg
              have hm : micN F 2 = micN F 1 + 1 := by rw [micN_succ F 1 (by decide) 9 rfl]; simp [isMouse, hg]
              have hc : codN F 2 = codN F 1 := by rw [codN_succ F 1 (by decide) 9 rfl]; simp [isCoding, hg]
              have HM2 := Lib.hid hm
              have HC2 := Lib.hid hc
              have ha := micN_12 F 1
              have hb := codN_12 F 1
              have HA := Lib.hid ha
              have HB2 := Lib.hid hb
              obtain ⟨a, hae⟩ : ∃ a, micN F 1 = a := ⟨_, rfl⟩
              obtain ⟨b, hbe⟩ : ∃ b, codN F 1 = b := ⟨_, rfl⟩
              rw [hae] at HM2 HA ⊢
              rw [hbe] at HC2 HB2 ⊢
              clear hm hc ha hb hae hbe h1 hg
              go_wp2
              (refine region_quiet HO (by kernel_rfl) (by kernel_rfl) ?_); repeat (first
      | (go_big_quiet_skip)
      | ((with_reducible refine qg_move ?_); (refine q_move rfl rfl (by first | exact .const | exact .tmp rfl | exact .func) ?_); (try simp only [Act.put, List.setIfInBounds_toArray, List.set_cons_zero, List.set_cons_succ]))
      | ((with_reducible refine qg_assign ?_); (refine q_assign rfl rfl (by first | exact .const | exact .tmp rfl | exact .func) ?_); (try simp only [Act.put, List.setIfInBounds_toArray, List.set_cons_zero, List.set_cons_succ]))
      | ((with_reducible refine qg_pick ?_); (refine q_pick_true rfl rfl rfl (by first | exact .const | exact .tmp rfl | exact .func) ?_); (try simp only [Act.put, List.setIfInBounds_toArray, List.set_cons_zero, List.set_cons_succ]))
      | ((with_reducible refine qg_pick ?_); (refine q_pick_false rfl rfl rfl (by first | exact .const | exact .tmp rfl | exact .func) ?_); (try simp only [Act.put, List.setIfInBounds_toArray, List.set_cons_zero, List.set_cons_succ]))
      | ((with_reducible refine qg_load ?_); (refine q_load (T := 23) rfl rfl rfl (by first | exact .head _ | exact .tail _ (.head _) | exact .tail _ (.tail _ (.head _)) | exact .tail _ (.tail _ (.tail _ (.head _))) | exact .tail _ (.tail _ (.tail _ (.tail _ (.head _)))) | exact .tail _ (.tail _ (.tail _ (.tail _ (.tail _ (.head _)))))) Try.isAgg23 Try.sizeOf23 (by repeat constructor) ?_); (try simp only [Act.put, List.setIfInBounds_toArray, List.set_cons_zero, List.set_cons_succ]))
      | ((with_reducible refine qg_load ?_); (refine q_load1 (T := 3) rfl rfl rfl (by first | exact .head _ | exact .tail _ (.head _) | exact .tail _ (.tail _ (.head _)) | exact .tail _ (.tail _ (.tail _ (.head _))) | exact .tail _ (.tail _ (.tail _ (.tail _ (.head _)))) | exact .tail _ (.tail _ (.tail _ (.tail _ (.tail _ (.head _)))))) Try.isAgg3 rfl ?_); (try simp only [Act.put, List.setIfInBounds_toArray, List.set_cons_zero, List.set_cons_succ]))
      | ((with_reducible refine qg_call ?_); (refine q_call (f := 15) rfl rfl Try.call15 rfl (fun wN HON => (get_calls' F true 9 1 G1.out wN)) ?_); (try simp only [Act.put, List.setIfInBounds_toArray, List.set_cons_zero, List.set_cons_succ]))
      | ((refine q_val rfl (fun w => by simp only [execOp]; first | (go_simp; done) | (go_simp; rfl)) ?_); (try simp only [Act.put, List.setIfInBounds_toArray, List.set_cons_zero, List.set_cons_succ])))
              refine wpQuiet_nil ?_
              intro wZ HOz; clear HO; have HO := HOz; clear HOz
              go_wp2_with (first
      | ((with_reducible refine gate ?_); (first
      | ((refine own_box HO rfl rfl rfl ?_); clear HO; intro gN wN hgN HO; (simp only [List.nil_append, List.cons_append] at HO); (try simp only [Act.put, List.setIfInBounds_toArray, List.set_cons_zero, List.set_cons_succ]))
      | ((refine own_load1 (T := 3) HO rfl rfl rfl (by first | exact .head _ | exact .tail _ (.head _) | exact .tail _ (.tail _ (.head _)) | exact .tail _ (.tail _ (.tail _ (.head _))) | exact .tail _ (.tail _ (.tail _ (.tail _ (.head _)))) | exact .tail _ (.tail _ (.tail _ (.tail _ (.tail _ (.head _)))))) Try.isAgg3 rfl ?_); (try simp only [Act.put, List.setIfInBounds_toArray, List.set_cons_zero, List.set_cons_succ]))
      | ((refine own_store (T := 3) HO rfl rfl rfl rfl (by first | exact .here | exact .there (.here) | exact .there (.there (.here)) | exact .there (.there (.there (.here))) | exact .there (.there (.there (.there (.here)))) | exact .there (.there (.there (.there (.there (.here)))))) Try.sizeOf3 (by repeat constructor) rfl ?_); clear HO; intro wN HO; (try simp only [Act.put, List.setIfInBounds_toArray, List.set_cons_zero, List.set_cons_succ])))))
              go_roundw
              case rel => exact ⟨2, by omega, by first | exact cnt_up _ _ HA.out HM2.out | exact cnt_up' _ _ HA.out HM2.out, by rw [HC2.out], rfl, HO⟩
              case measure => exact meas12 1 (by omega)
            · obtain ⟨gx, hgx⟩ : ∃ gx, getM F true 9 = gx := ⟨_, rfl⟩
              have hm : micN F 2 = micN F 1 := by rw [micN_succ F 1 (by decide) 9 rfl]; simp [isMouse, h1]
              have hc : codN F 2 = codN F 1 := by rw [codN_succ F 1 (by decide) 9 rfl]; simp [isCoding, h1]
              rw [hgx] at h1
              have b1 : (gx != 1) = true := bne_iff_ne.2 h1
              have b2 : (gx == 1) = false := beq_eq_false_iff_ne.2 h1
              have G1 := Lib.hid hgx
              clear hgx
              have HM2 := Lib.hid hm
              have HC2 := Lib.hid hc
              have ha := micN_12 F 1
              have hb := codN_12 F 1
              have HA := Lib.hid ha
              have HB2 := Lib.hid hb
              obtain ⟨a, hae⟩ : ∃ a, micN F 1 = a := ⟨_, rfl⟩
              obtain ⟨b, hbe⟩ : ∃ b, codN F 1 = b := ⟨_, rfl⟩
              rw [hae] at HM2 HA ⊢
              rw [hbe] at HC2 HB2 ⊢
              clear hm hc ha hb hae hbe h1
              go_wp2
              (refine region_quiet HO (by kernel_rfl) (by kernel_rfl) ?_); repeat (first
      | (go_big_quiet_skip)
      | ((with_reducible refine qg_move ?_); (refine q_move rfl rfl (by first | exact .const | exact .tmp rfl | exact .func) ?_); (try simp only [Act.put, List.setIfInBounds_toArray, List.set_cons_zero, List.set_cons_succ]))
      | ((with_reducible refine qg_assign ?_); (refine q_assign rfl rfl (by first | exact .const | exact .tmp rfl | exact .func) ?_); (try simp only [Act.put, List.setIfInBounds_toArray, List.set_cons_zero, List.set_cons_succ]))
      | ((with_reducible refine qg_pick ?_); (refine q_pick_true rfl rfl rfl (by first | exact .const | exact .tmp rfl | exact .func) ?_); (try simp only [Act.put, List.setIfInBounds_toArray, List.set_cons_zero, List.set_cons_succ]))
      | ((with_reducible refine qg_pick ?_); (refine q_pick_false rfl rfl rfl (by first | exact .const | exact .tmp rfl | exact .func) ?_); (try simp only [Act.put, List.setIfInBounds_toArray, List.set_cons_zero, List.set_cons_succ]))
      | ((with_reducible refine qg_load ?_); (refine q_load (T := 23) rfl rfl rfl (by first | exact .head _ | exact .tail _ (.head _) | exact .tail _ (.tail _ (.head _)) | exact .tail _ (.tail _ (.tail _ (.head _))) | exact .tail _ (.tail _ (.tail _ (.tail _ (.head _)))) | exact .tail _ (.tail _ (.tail _ (.tail _ (.tail _ (.head _)))))) Try.isAgg23 Try.sizeOf23 (by repeat constructor) ?_); (try simp only [Act.put, List.setIfInBounds_toArray, List.set_cons_zero, List.set_cons_succ]))
      | ((with_reducible refine qg_load ?_); (refine q_load1 (T := 3) rfl rfl rfl (by first | exact .head _ | exact .tail _ (.head _) | exact .tail _ (.tail _ (.head _)) | exact .tail _ (.tail _ (.tail _ (.head _))) | exact .tail _ (.tail _ (.tail _ (.tail _ (.head _)))) | exact .tail _ (.tail _ (.tail _ (.tail _ (.tail _ (.head _)))))) Try.isAgg3 rfl ?_); (try simp only [Act.put, List.setIfInBounds_toArray, List.set_cons_zero, List.set_cons_succ]))
      | ((with_reducible refine qg_call ?_); (refine q_call (f := 15) rfl rfl Try.call15 rfl (fun wN HON => (get_calls' F true 9 gx G1.out wN)) ?_); (try simp only [Act.put, List.setIfInBounds_toArray, List.set_cons_zero, List.set_cons_succ]))
      | ((refine q_val rfl (fun w => by simp only [execOp]; first | (go_simp; done) | (go_simp; rfl)) ?_); (try simp only [Act.put, List.setIfInBounds_toArray, List.set_cons_zero, List.set_cons_succ])))
              refine wpQuiet_nil ?_
              intro wZ HOz; clear HO; have HO := HOz; clear HOz
              go_wp2_with (first
      | ((with_reducible refine gate ?_); (first
      | ((refine own_box HO rfl rfl rfl ?_); clear HO; intro gN wN hgN HO; (simp only [List.nil_append, List.cons_append] at HO); (try simp only [Act.put, List.setIfInBounds_toArray, List.set_cons_zero, List.set_cons_succ]))
      | ((refine own_load1 (T := 3) HO rfl rfl rfl (by first | exact .head _ | exact .tail _ (.head _) | exact .tail _ (.tail _ (.head _)) | exact .tail _ (.tail _ (.tail _ (.head _))) | exact .tail _ (.tail _ (.tail _ (.tail _ (.head _)))) | exact .tail _ (.tail _ (.tail _ (.tail _ (.tail _ (.head _)))))) Try.isAgg3 rfl ?_); (try simp only [Act.put, List.setIfInBounds_toArray, List.set_cons_zero, List.set_cons_succ]))
      | ((refine own_store (T := 3) HO rfl rfl rfl rfl (by first | exact .here | exact .there (.here) | exact .there (.there (.here)) | exact .there (.there (.there (.here))) | exact .there (.there (.there (.there (.here)))) | exact .there (.there (.there (.there (.there (.here)))))) Try.sizeOf3 (by repeat constructor) rfl ?_); clear HO; intro wN HO; (try simp only [Act.put, List.setIfInBounds_toArray, List.set_cons_zero, List.set_cons_succ])))))
              go_roundw
              case rel => exact ⟨2, by omega, by rw [HM2.out], by rw [HC2.out], rfl, HO⟩
              case measure => exact meas12 1 (by omega)
          · by_cases h1 : getM F true 66 = 1
            · have hg : getM F true 66 = 1 := h1
              have G1 := Lib.hid hg
              have hm : micN F 3 = micN F 2 := by rw [micN_succ F 2 (by decide) 66 rfl]; simp [isMouse, hg]
              have hc : codN F 3 = codN F 2 := by rw [codN_succ F 2 (by decide) 66 rfl]; simp [isCoding, hg]
              have HM2 := Lib.hid hm
              have HC2 := Lib.hid hc
              have ha := micN_12 F 2
              have hb := codN_12 F 2
              have HA := Lib.hid ha
              have HB2 := Lib.hid hb
              obtain ⟨a, hae⟩ : ∃ a, micN F 2 = a := ⟨_, rfl⟩
              obtain ⟨b, hbe⟩ : ∃ b, codN F 2 = b := ⟨_, rfl⟩
              rw [hae] at HM2 HA ⊢
              rw [hbe] at HC2 HB2 ⊢
              clear hm hc ha hb hae hbe h1 hg
              go_wp2
              (refine region_quiet HO (by kernel_rfl) (by kernel_rfl) ?_); repeat (first
      | (go_big_quiet_skip)
      | ((with_reducible refine qg_move ?_); (refine q_move rfl rfl (by first | exact .const | exact .tmp rfl | exact .func) ?_); (try simp only [Act.put, List.setIfInBounds_toArray, List.set_cons_zero, List.set_cons_succ]))
      | ((with_reducible refine qg_assign ?_); (refine q_assign rfl rfl (by first | exact .const | exact .tmp rfl | exact .func) ?_); (try simp only [Act.put, List.setIfInBounds_toArray, List.set_cons_zero, List.set_cons_succ]))
      | ((with_reducible refine qg_pick ?_); (refine q_pick_true rfl rfl rfl (by first | exact .const | exact .tmp rfl | exact .func) ?_); (try simp only [Act.put, List.setIfInBounds_toArray, List.set_cons_zero, List.set_cons_succ]))
      | ((with_reducible refine qg_pick ?_); (refine q_pick_false rfl rfl rfl (by first | exact .const | exact .tmp rfl | exact .func) ?_); (try simp only [Act.put, List.setIfInBounds_toArray, List.set_cons_zero, List.set_cons_succ]))
      | ((with_reducible refine qg_load ?_); (refine q_load (T := 23) rfl rfl rfl (by first | exact .head _ | exact .tail _ (.head _) | exact .tail _ (.tail _ (.head _)) | exact .tail _ (.tail _ (.tail _ (.head _))) | exact .tail _ (.tail _ (.tail _ (.tail _ (.head _)))) | exact .tail _ (.tail _ (.tail _ (.tail _ (.tail _ (.head _)))))) Try.isAgg23 Try.sizeOf23 (by repeat constructor) ?_); (try simp only [Act.put, List.setIfInBounds_toArray, List.set_cons_zero, List.set_cons_succ]))
      | ((with_reducible refine qg_load ?_); (refine q_load1 (T := 3) rfl rfl rfl (by first | exact .head _ | exact .tail _ (.head _) | exact .tail _ (.tail _ (.head _)) | exact .tail _ (.tail _ (.tail _ (.head _))) | exact .tail _ (.tail _ (.tail _ (.tail _ (.head _)))) | exact .tail _ (.tail _ (.tail _ (.tail _ (.tail _ (.head _)))))) Try.isAgg3 rfl ?_); (try simp only [Act.put, List.setIfInBounds_toArray, List.set_cons_zero, List.set_cons_succ]))
      | ((with_reducible refine qg_call ?_); (refine q_call (f := 15) rfl rfl Try.call15 rfl (fun wN HON => (get_calls' F true 66 1 G1.out wN)) ?_); (try simp only [Act.put, List.setIfInBounds_toArray, List.set_cons_zero, List.set_cons_succ]))
      | ((refine q_val rfl (fun w => by simp only [execOp]; first | (go_simp; done) | (go_simp; rfl)) ?_); (try simp only [Act.put, List.setIfInBounds_toArray, List.set_cons_zero, List.set_cons_succ])))
              refine wpQuiet_nil ?_
              intro wZ HOz; clear HO; have HO := HOz; clear HOz
              go_wp2_with (first
      | ((with_reducible refine gate ?_); (first
      | ((refine own_box HO rfl rfl rfl ?_); clear HO; intro gN wN hgN HO; (simp only [List.nil_append, List.cons_append] at HO); (try simp only [Act.put, List.setIfInBounds_toArray, List.set_cons_zero, List.set_cons_succ]))
      | ((refine own_load1 (T := 3) HO rfl rfl rfl (by first | exact .head _ | exact .tail _ (.head _) | exact .tail _ (.tail _ (.head _)) | exact .tail _ (.tail _ (.tail _ (.head _))) | exact .tail _ (.tail _ (.tail _ (.tail _ (.head _)))) | exact .tail _ (.tail _ (.tail _ (.tail _ (.tail _ (.head _)))))) Try.isAgg3 rfl ?_); (try simp only [Act.put, List.setIfInBounds_toArray, List.set_cons_zero, List.set_cons_succ]))
      | ((refine own_store (T := 3) HO rfl rfl rfl rfl (by first | exact .here | exact .there (.here) | exact .there (.there (.here)) | exact .there (.there (.there (.here))) | exact .there (.there (.there (.there (.here)))) | exact .there (.there (.there (.there (.there (.here)))))) Try.sizeOf3 (by repeat constructor) rfl ?_); clear HO; intro wN HO; (try simp only [Act.put, List.setIfInBounds_toArray, List.set_cons_zero, List.set_cons_succ])))))
              go_roundw
              case rel => exact ⟨3, by omega, by rw [HM2.out], by rw [HC2.out], rfl, HO⟩
              case measure => exact meas12 2 (by omega)
            · obtain ⟨gx, hgx⟩ : ∃ gx, getM F true 66 = gx := ⟨_, rfl⟩
              have hm : micN F 3 = micN F 2 := by rw [micN_succ F 2 (by decide) 66 rfl]; simp [isMouse, h1]
              have hc : codN F 3 = codN F 2 := by rw [codN_succ F 2 (by decide) 66 rfl]; simp [isCoding, h1]
              rw [hgx] at h1
              have b1 : (gx != 1) = true := bne_iff_ne.2 h1
              have b2 : (gx == 1) = false := beq_eq_false_iff_ne.2 h1
              have G1 := Lib.hid hgx
              clear hgx
              have HM2 := Lib.hid hm
              have HC2 := Lib.hid hc
              have ha := micN_12 F 2
              have hb := codN_12 F 2
              have HA := Lib.hid ha
              have HB2 := Lib.hid hb
              obtain ⟨a, hae⟩ : ∃ a, micN F 2 = a := ⟨_, rfl⟩
              obtain ⟨b, hbe⟩ : ∃ b, codN F 2 = b := ⟨_, rfl⟩
              rw [hae] at HM2 HA ⊢
              rw [hbe] at HC2 HB2 ⊢
              clear hm hc ha hb hae hbe h1
              go_wp2
              (refine region_quiet HO (by kernel_rfl) (by kernel_rfl) ?_); repeat (first
      | (go_big_quiet_skip)
      | ((with_reducible refine qg_move ?_); (refine q_move rfl rfl (by first | exact .const | exact .tmp rfl | exact .func) ?_); (try simp only [Act.put, List.setIfInBounds_toArray, List.set_cons_zero, List.set_cons_succ]))
      | ((with_reducible refine qg_assign ?_); (refine q_assign rfl rfl (by first | exact .const | exact .tmp rfl | exact .func) ?_); (try simp only [Act.put, List.setIfInBounds_toArray, List.set_cons_zero, List.set_cons_succ]))
      | ((with_reducible refine qg_pick ?_); (refine q_pick_true rfl rfl rfl (by first | exact .const | exact .tmp rfl | exact .func) ?_); (try simp only [Act.put, List.setIfInBounds_toArray, List.set_cons_zero, List.set_cons_succ]))
      | ((with_reducible refine qg_pick ?_); (refine q_pick_false rfl rfl rfl (by first | exact .const | exact .tmp rfl | exact .func) ?_); (try simp only [Act.put, List.setIfInBounds_toArray, List.set_cons_zero, List.set_cons_succ]))
      | ((with_reducible refine qg_load ?_); (refine q_load (T := 23) rfl rfl rfl (by first | exact .head _ | exact .tail _ (.head _) | exact .tail _ (.tail _ (.head _)) | exact .tail _ (.tail _ (.tail _ (.head _))) | exact .tail _ (.tail _ (.tail _ (.tail _ (.head _)))) | exact .tail _ (.tail _ (.tail _ (.tail _ (.tail _ (.head _)))))) Try.isAgg23 Try.sizeOf23 (by repeat constructor) ?_); (try simp only [Act.put, List.setIfInBounds_toArray, List.set_cons_zero, List.set_cons_succ]))
      | ((with_reducible refine qg_load ?_); (refine q_load1 (T := 3) rfl rfl rfl (by first | exact .head _ | exact .tail _ (.head _) | exact .tail _ (.tail _ (.head _)) | exact .tail _ (.tail _ (.tail _ (.head _))) | exact .tail _ (.tail _ (.tail _ (.tail _ (.head _)))) | exact .tail _ (.tail _ (.tail _ (.tail _ (.tail _ (.head _)))))) Try.isAgg3 rfl ?_); (try simp only [Act.put, List.setIfInBounds_toArray, List.set_cons_zero, List.set_cons_succ]))
      | ((with_reducible refine qg_call ?_); (refine q_call (f := 15) rfl rfl Try.call15 rfl (fun wN HON => (get_calls' F true 66 gx G1.out wN)) ?_); (try simp only [Act.put, List.setIfInBounds_toArray, List.set_cons_zero, List.set_cons_succ]))
      | ((refine q_val rfl (fun w => by simp only [execOp]; first | (go_simp; done) | (go_simp; rfl)) ?_); (try simp only [Act.put, List.setIfInBounds_toArray, List.set_cons_zero, List.set_cons_succ])))
              refine wpQuiet_nil ?_
              intro wZ HOz; clear HO; have HO := HOz; clear HOz
              go_wp2_with (first
      | ((with_reducible refine gate ?_); (first
      | ((refine own_box HO rfl rfl rfl ?_); clear HO; intro gN wN hgN HO; (simp only [List.nil_append, List.cons_append] at HO); (try simp only [Act.put, List.setIfInBounds_toArray, List.set_cons_zero, List.set_cons_succ]))
      | ((refine own_load1 (T := 3) HO rfl rfl rfl (by first | exact .head _ | exact .tail _ (.head _) | exact .tail _ (.tail _ (.head _)) | exact .tail _ (.tail _ (.tail _ (.head _))) | exact .tail _ (.tail _ (.tail _ (.tail _ (.head _)))) | exact .tail _ (.tail _ (.tail _ (.tail _ (.tail _ (.head _)))))) Try.isAgg3 rfl ?_); (try simp only [Act.put, List.setIfInBounds_toArray, List.set_cons_zero, List.set_cons_succ]))
      | ((refine own_store (T := 3) HO rfl rfl rfl rfl (by first | exact .here | exact .there (.here) | exact .there (.there (.here)) | exact .there (.there (.there (.here))) | exact .there (.there (.there (.there (.here)))) | exact .there (.there (.there (.there (.there (.here)))))) Try.sizeOf3 (by repeat constructor) rfl ?_); clear HO; intro wN HO; (try simp only [Act.put, List.setIfInBounds_toArray, List.set_cons_zero, List.set_cons_succ])))))
              go_roundw
              case rel => exact ⟨3, by omega, by rw [HM2.out], by rw [HC2.out], rfl, HO⟩
              case measure => exact meas12 2 (by omega)
          · by_cases h1 : getM F true 67 = 1
            · have hg : getM F true 67 = 1 := h1
              have G1 := Lib.hid hg
              have hm : micN F 4 = micN F 3 := by rw [micN_succ F 3 (by decide) 67 rfl]; simp [isMouse, hg]
              have hc : codN F 4 = codN F 3 := by rw [codN_succ F 3 (by decide) 67 rfl]; simp [isCoding, hg]
              have HM2 := Lib.hid hm
              have HC2 := Lib.hid hc
              have ha := micN_12 F 3
              have hb := codN_12 F 3
              have HA := Lib.hid ha
              have HB2 := Lib.hid hb
              obtain ⟨a, hae⟩ : ∃ a, micN F 3 = a := ⟨_, rfl⟩
              obtain ⟨b, hbe⟩ : ∃ b, codN F 3 = b := ⟨_, rfl⟩
              rw [hae] at HM2 HA ⊢
              rw [hbe] at HC2 HB2 ⊢
              clear hm hc ha hb hae hbe h1 hg
              go_wp2
              (refine region_quiet HO (by kernel_rfl) (by kernel_rfl) ?_); repeat (first
      | (go_big_quiet_skip)
      | ((with_reducible refine qg_move ?_); (refine q_move rfl rfl (by first | exact .const | exact .tmp rfl | exact .func) ?_); (try simp only [Act.put, List.setIfInBounds_toArray, List.set_cons_zero, List.set_cons_succ]))
      | ((with_reducible refine qg_assign ?_); (refine q_assign rfl rfl (by first | exact .const | exact .tmp rfl | exact .func) ?_); (try simp only [Act.put, List.setIfInBounds_toArray, List.set_cons_zero, List.set_cons_succ]))
      | ((with_reducible refine qg_pick ?_); (refine q_pick_true rfl rfl rfl (by first | exact .const | exact .tmp rfl | exact .func) ?_); (try simp only [Act.put, List.setIfInBounds_toArray, List.set_cons_zero, List.set_cons_succ]))
      | ((with_reducible refine qg_pick ?_); (refine q_pick_false rfl rfl rfl (by first | exact .const | exact .tmp rfl | exact .func) ?_); (try simp only [Act.put, List.setIfInBounds_toArray, List.set_cons_zero, List.set_cons_succ]))
      | ((with_reducible refine qg_load ?_); (refine q_load (T := 23) rfl rfl rfl (by first | exact .head _ | exact .tail _ (.head _) | exact .tail _ (.tail _ (.head _)) | exact .tail _ (.tail _ (.tail _ (.head _))) | exact .tail _ (.tail _ (.tail _ (.tail _ (.head _)))) | exact .tail _ (.tail _ (.tail _ (.tail _ (.tail _ (.head _)))))) Try.isAgg23 Try.sizeOf23 (by repeat constructor) ?_); (try simp only [Act.put, List.setIfInBounds_toArray, List.set_cons_zero, List.set_cons_succ]))
      | ((with_reducible refine qg_load ?_); (refine q_load1 (T := 3) rfl rfl rfl (by first | exact .head _ | exact .tail _ (.head _) | exact .tail _ (.tail _ (.head _)) | exact .tail _ (.tail _ (.tail _ (.head _))) | exact .tail _ (.tail _ (.tail _ (.tail _ (.head _)))) | exact .tail _ (.tail _ (.tail _ (.tail _ (.tail _ (.head _)))))) Try.isAgg3 rfl ?_); (try simp only [Act.put, List.setIfInBounds_toArray, List.set_cons_zero, List.set_cons_succ]))
      | ((with_reducible refine qg_call ?_); (refine q_call (f := 15) rfl rfl Try.call15 rfl (fun wN HON => (get_calls' F true 67 1 G1.out wN)) ?_); (try simp only [Act.put, List.setIfInBounds_toArray, List.set_cons_zero, List.set_cons_succ]))
      | ((refine q_val rfl (fun w => by simp only [execOp]; first | (go_simp; done) | (go_simp; rfl)) ?_); (try simp only [Act.put, List.setIfInBounds_toArray, List.set_cons_zero, List.set_cons_succ])))
              refine wpQuiet_nil ?_
              intro wZ HOz; clear HO; have HO := HOz; clear HOz
              go_wp2_with (first
      | ((with_reducible refine gate ?_); (first
      | ((refine own_box HO rfl rfl rfl ?_); clear HO; intro gN wN hgN HO; (simp only [List.nil_append, List.cons_append] at HO); (try simp only [Act.put, List.setIfInBounds_toArray, List.set_cons_zero, List.set_cons_succ]))
      | ((refine own_load1 (T := 3) HO rfl rfl rfl (by first | exact .head _ | exact .tail _ (.head _) | exact .tail _ (.tail _ (.head _)) | exact .tail _ (.tail _ (.tail _ (.head _))) | exact .tail _ (.tail _ (.tail _ (.tail _ (.head _)))) | exact .tail _ (.tail _ (.tail _ (.tail _ (.tail _ (.head _)))))) Try.isAgg3 rfl ?_); (try simp only [Act.put, List.setIfInBounds_toArray, List.set_cons_zero, List.set_cons_succ]))
      | ((refine own_store (T := 3) HO rfl rfl rfl rfl (by first | exact .here | exact .there (.here) | exact .there (.there (.here)) | exact .there (.there (.there (.here))) | exact .there (.there (.there (.there (.here)))) | exact .there (.there (.there (.there (.there (.here)))))) Try.sizeOf3 (by repeat constructor) rfl ?_); clear HO; intro wN HO; (try simp only [Act.put, List.setIfInBounds_toArray, List.set_cons_zero, List.set_cons_succ])))))
              go_roundw
              case rel => exact ⟨4, by omega, by rw [HM2.out], by rw [HC2.out], rfl, HO⟩
              case measure => exact meas12 3 (by omega)
            · obtain ⟨gx, hgx⟩ : ∃ gx, getM F true 67 = gx := ⟨_, rfl⟩
              have hm : micN F 4 = micN F 3 := by rw [micN_succ F 3 (by decide) 67 rfl]; simp [isMouse, h1]
              have hc : codN F 4 = codN F 3 := by rw [codN_succ F 3 (by decide) 67 rfl]; simp [isCoding, h1]
              rw [hgx] at h1
              have b1 : (gx != 1) = true := bne_iff_ne.2 h1
              have b2 : (gx == 1) = false := beq_eq_false_iff_ne.2 h1
              have G1 := Lib.hid hgx
              clear hgx
              have HM2 := Lib.hid hm
              have HC2 := Lib.hid hc
              have ha := micN_12 F 3
              have hb := codN_12 F 3
              have HA := Lib.hid ha
              have HB2 := Lib.hid hb
              obtain ⟨a, hae⟩ : ∃ a, micN F 3 = a := ⟨_, rfl⟩
              obtain ⟨b, hbe⟩ : ∃ b, codN F 3 = b := ⟨_, rfl⟩
              rw [hae] at HM2 HA ⊢
              rw [hbe] at HC2 HB2 ⊢
              clear hm hc ha hb hae hbe h1
              go_wp2
              (refine region_quiet HO (by kernel_rfl) (by kernel_rfl) ?_); repeat (first
      | (go_big_quiet_skip)
      | ((with_reducible refine qg_move ?_); (refine q_move rfl rfl (by first | exact .const | exact .tmp rfl | exact .func) ?_); (try simp only [Act.put, List.setIfInBounds_toArray, List.set_cons_zero, List.set_cons_succ]))
      | ((with_reducible refine qg_assign ?_); (refine q_assign rfl rfl (by first | exact .const | exact .tmp rfl | exact .func) ?_); (try simp only [Act.put, List.setIfInBounds_toArray, List.set_cons_zero, List.set_cons_succ]))
      | ((with_reducible refine qg_pick ?_); (refine q_pick_true rfl rfl rfl (by first | exact .const | exact .tmp rfl | exact .func) ?_); (try simp only [Act.put, List.setIfInBounds_toArray, List.set_cons_zero, List.set_cons_succ]))
      | ((with_reducible refine qg_pick ?_); (refine q_pick_false rfl rfl rfl (by first | exact .const | exact .tmp rfl | exact .func) ?_); (try simp only [Act.put, List.setIfInBounds_toArray, List.set_cons_zero, List.set_cons_succ]))
      | ((with_reducible refine qg_load ?_); (refine q_load (T := 23) rfl rfl rfl (by first | exact .head _ | exact .tail _ (.head _) | exact .tail _ (.tail _ (.head _)) | exact .tail _ (.tail _ (.tail _ (.head _))) | exact .tail _ (.tail _ (.tail _ (.tail _ (.head _)))) | exact .tail _ (.tail _ (.tail _ (.tail _ (.tail _ (.head _)))))) Try.isAgg23 Try.sizeOf23 (by repeat constructor) ?_); (try simp only [Act.put, List.setIfInBounds_toArray, List.set_cons_zero, List.set_cons_succ]))
      | ((with_reducible refine qg_load ?_); (refine q_load1 (T := 3) rfl rfl rfl (by first | exact .head _ | exact .tail _ (.head _) | exact .tail _ (.tail _ (.head _)) | exact .tail _ (.tail _ (.tail _ (.head _))) | exact .tail _ (.tail _ (.tail _ (.tail _ (.head _)))) | exact .tail _ (.tail _ (.tail _ (.tail _ (.tail _ (.head _)))))) Try.isAgg3 rfl ?_); (try simp only [Act.put, List.setIfInBounds_toArray, List.set_cons_zero, List.set_cons_succ]))
      | ((with_reducible refine qg_call ?_); (refine q_call (f := 15) rfl rfl Try.call15 rfl (fun wN HON => (get_calls' F true 67 gx G1.out wN)) ?_); (try simp only [Act.put, List.setIfInBounds_toArray, List.set_cons_zero, List.set_cons_succ]))
      | ((refine q_val rfl (fun w => by simp only [execOp]; first | (go_simp; done) | (go_simp; rfl)) ?_); (try simp only [Act.put, List.setIfInBounds_toArray, List.set_cons_zero, List.set_cons_succ])))
              refine wpQuiet_nil ?_
              intro wZ HOz; clear HO; have HO := HOz; clear HOz
              go_wp2_with (first
      | ((with_reducible refine gate ?_); (first
      | ((refine own_box HO rfl rfl rfl ?_); clear HO; intro gN wN hgN HO; (simp only [List.nil_append, List.cons_append] at HO); (try simp only [Act.put, List.setIfInBounds_toArray, List.set_cons_zero, List.set_cons_succ]))
      | ((refine own_load1 (T := 3) HO rfl rfl rfl (by first | exact .head _ | exact .tail _ (.head _) | exact .tail _ (.tail _ (.head _)) | exact .tail _ (.tail _ (.tail _ (.head _))) | exact .tail _ (.tail _ (.tail _ (.tail _ (.head _)))) | exact .tail _ (.tail _ (.tail _ (.tail _ (.tail _ (.head _)))))) Try.isAgg3 rfl ?_); (try simp only [Act.put, List.setIfInBounds_toArray, List.set_cons_zero, List.set_cons_succ]))
      | ((refine own_store (T := 3) HO rfl rfl rfl rfl (by first | exact .here | exact .there (.here) | exact .there (.there (.here)) | exact .there (.there (.there (.here))) | exact .there (.there (.there (.there (.here)))) | exact .there (.there (.there (.there (.there (.here)))))) Try.sizeOf3 (by repeat constructor) rfl ?_); clear HO; intro wN HO; (try simp only [Act.put, List.setIfInBounds_toArray, List.set_cons_zero, List.set_cons_succ])))))
              go_roundw
              case rel => exact ⟨4, by omega, by rw [HM2.out], by rw [HC2.out], rfl, HO⟩
              case measure => exact meas12 3 (by omega)
          · by_cases h1 : getM F true 1000 = 1
            · have hg : getM F true 1000 = 1 := h1
              have G1 := Lib.hid hg
              have hm : micN F 5 = micN F 4 + 1 := by rw [micN_succ F 4 (by decide) 1000 rfl]; simp [isMouse, hg]
              have hc : codN F 5 = codN F 4 := by rw [codN_succ F 4 (by decide) 1000 rfl]; simp [isCoding, hg]
              have HM2 := Lib.hid hm
              have HC2 := Lib.hid hc
              have ha := micN_12 F 4
              have hb := codN_12 F 4
              have HA := Lib.hid ha
              have HB2 := Lib.hid hb
              obtain ⟨a, hae⟩ : ∃ a, micN F 4 = a := ⟨_, rfl⟩
              obtain ⟨b, hbe⟩ : ∃ b, codN F 4 = b := ⟨_, rfl⟩
              rw [hae] at HM2 HA ⊢
              rw [hbe] at HC2 HB2 ⊢
              clear hm hc ha hb hae hbe h1 hg
              go_wp2
              (refine region_quiet HO (by kernel_rfl) (by kernel_rfl) ?_); repeat (first
      | (go_big_quiet_skip)
      | ((with_reducible refine qg_move ?_); (refine q_move rfl rfl (by first | exact .const | exact .tmp rfl | exact .func) ?_); (try simp only [Act.put, List.setIfInBounds_toArray, List.set_cons_zero, List.set_cons_succ]))
      | ((with_reducible refine qg_assign ?_); (refine q_assign rfl rfl (by first | exact .const | exact .tmp rfl | exact .func) ?_); (try simp only [Act.put, List.setIfInBounds_toArray, List.set_cons_zero, List.set_cons_succ]))
      | ((with_reducible refine qg_pick ?_); (refine q_pick_true rfl rfl rfl (by first | exact .const | exact .tmp rfl | exact .func) ?_); (try simp only [Act.put, List.setIfInBounds_toArray, List.set_cons_zero, List.set_cons_succ]))
      | ((with_reducible refine qg_pick ?_); (refine q_pick_false rfl rfl rfl (by first | exact .const | exact .tmp rfl | exact .func) ?_); (try simp only [Act.put, List.setIfInBounds_toArray, List.set_cons_zero, List.set_cons_succ]))
      | ((with_reducible refine qg_load ?_); (refine q_load (T := 23) rfl rfl rfl (by first | exact .head _ | exact .tail _ (.head _) | exact .tail _ (.tail _ (.head _)) | exact .tail _ (.tail _ (.tail _ (.head _))) | exact .tail _ (.tail _ (.tail _ (.tail _ (.head _)))) | exact .tail _ (.tail _ (.tail _ (.tail _ (.tail _ (.head _)))))) Try.isAgg23 Try.sizeOf23 (by repeat constructor) ?_); (try simp only [Act.put, List.setIfInBounds_toArray, List.set_cons_zero, List.set_cons_succ]))
      | ((with_reducible refine qg_load ?_); (refine q_load1 (T := 3) rfl rfl rfl (by first | exact .head _ | exact .tail _ (.head _) | exact .tail _ (.tail _ (.head _)) | exact .tail _ (.tail _ (.tail _ (.head _))) | exact .tail _ (.tail _ (.tail _ (.tail _ (.head _)))) | exact .tail _ (.tail _ (.tail _ (.tail _ (.tail _ (.head _)))))) Try.isAgg3 rfl ?_); (try simp only [Act.put, List.setIfInBounds_toArray, List.set_cons_zero, List.set_cons_succ]))
      | ((with_reducible refine qg_call ?_); (refine q_call (f := 15) rfl rfl Try.call15 rfl (fun wN HON => (get_calls' F true 1000 1 G1.out wN)) ?_); (try simp only [Act.put, List.setIfInBounds_toArray, List.set_cons_zero, List.set_cons_succ]))
      | ((refine q_val rfl (fun w => by simp only [execOp]; first | (go_simp; done) | (go_simp; rfl)) ?_); (try simp only [Act.put, List.setIfInBounds_toArray, List.set_cons_zero, List.set_cons_succ])))
              refine wpQuiet_nil ?_
              intro wZ HOz; clear HO; have HO := HOz; clear HOz
              go_wp2_with (first
      | ((with_reducible refine gate ?_); (first
      | ((refine own_box HO rfl rfl rfl ?_); clear HO; intro gN wN hgN HO; (simp only [List.nil_append, List.cons_append] at HO); (try simp only [Act.put, List.setIfInBounds_toArray, List.set_cons_zero, List.set_cons_succ]))
      | ((refine own_load1 (T := 3) HO rfl rfl rfl (by first | exact .head _ | exact .tail _ (.head _) | exact .tail _ (.tail _ (.head _)) | exact .tail _ (.tail _ (.tail _ (.head _))) | exact .tail _ (.tail _ (.tail _ (.tail _ (.head _)))) | exact .tail _ (.tail _ (.tail _ (.tail _ (.tail _ (.head _)))))) Try.isAgg3 rfl ?_); (try simp only [Act.put, List.setIfInBounds_toArray, List.set_cons_zero, List.set_cons_succ]))
      | ((refine own_store (T := 3) HO rfl rfl rfl rfl (by first | exact .here | exact .there (.here) | exact .there (.there (.here)) | exact .there (.there (.there (.here))) | exact .there (.there (.there (.there (.here)))) | exact .there (.there (.there (.there (.there (.here)))))) Try.sizeOf3 (by repeat constructor) rfl ?_); clear HO; intro wN HO; (try simp only [Act.put, List.setIfInBounds_toArray, List.set_cons_zero, List.set_cons_succ])))))
              go_roundw
              case rel => exact ⟨5, by omega, by first | exact cnt_up _ _ HA.out HM2.out | exact cnt_up' _ _ HA.out HM2.out, by rw [HC2.out], rfl, HO⟩
              case measure => exact meas12 4 (by omega)
            · obtain ⟨gx, hgx⟩ : ∃ gx, getM F true 1000 = gx := ⟨_, rfl⟩
              have hm : micN F 5 = micN F 4 := by rw [micN_succ F 4 (by decide) 1000 rfl]; simp [isMouse, h1]
              have hc : codN F 5 = codN F 4 := by rw [codN_succ F 4 (by decide) 1000 rfl]; simp [isCoding, h1]
              rw [hgx] at h1
              have b1 : (gx != 1) = true := bne_iff_ne.2 h1
              have b2 : (gx == 1) = false := beq_eq_false_iff_ne.2 h1
              have G1 := Lib.hid hgx
              clear hgx
              have HM2 := Lib.hid hm
              have HC2 := Lib.hid hc
              have ha := micN_12 F 4
              have hb := codN_12 F 4
              have HA := Lib.hid ha
              have HB2 := Lib.hid hb
              obtain ⟨a, hae⟩ : ∃ a, micN F 4 = a := ⟨_, rfl⟩
              obtain ⟨b, hbe⟩ : ∃ b, codN F 4 = b := ⟨_, rfl⟩
              rw [hae] at HM2 HA ⊢
              rw [hbe] at HC2 HB2 ⊢
              clear hm hc ha hb hae hbe h1
              go_wp2
              (refine region_quiet HO (by kernel_rfl) (by kernel_rfl) ?_); repeat (first
      | (go_big_quiet_skip)
      | ((with_reducible refine qg_move ?_); (refine q_move rfl rfl (by first | exact .const | exact .tmp rfl | exact .func) ?_); (try simp only [Act.put, List.setIfInBounds_toArray, List.set_cons_zero, List.set_cons_succ]))
      | ((with_reducible refine qg_assign ?_); (refine q_assign rfl rfl (by first | exact .const | exact .tmp rfl | exact .func) ?_); (try simp only [Act.put, List.setIfInBounds_toArray, List.set_cons_zero, List.set_cons_succ]))
      | ((with_reducible refine qg_pick ?_); (refine q_pick_true rfl rfl rfl (by first | exact .const | exact .tmp rfl | exact .func) ?_); (try simp only [Act.put, List.setIfInBounds_toArray, List.set_cons_zero, List.set_cons_succ]))
      | ((with_reducible refine qg_pick ?_); (refine q_pick_false rfl rfl rfl (by first | exact .const | exact .tmp rfl | exact .func) ?_); (try simp only [Act.put, List.setIfInBounds_toArray, List.set_cons_zero, List.set_cons_succ]))
      | ((with_reducible refine qg_load ?_); (refine q_load (T := 23) rfl rfl rfl (by first | exact .head _ | exact .tail _ (.head _) | exact .tail _ (.tail _ (.head _)) | exact .tail _ (.tail _ (.tail _ (.head _))) | exact .tail _ (.tail _ (.tail _ (.tail _ (.head _)))) | exact .tail _ (.tail _ (.tail _ (.tail _ (.tail _ (.head _)))))) Try.isAgg23 Try.sizeOf23 (by repeat constructor) ?_); (try simp only [Act.put, List.setIfInBounds_toArray, List.set_cons_zero, List.set_cons_succ]))
      | ((with_reducible refine qg_load ?_); (refine q_load1 (T := 3) rfl rfl rfl (by first | exact .head _ | exact .tail _ (.head _) | exact .tail _ (.tail _ (.head _)) | exact .tail _ (.tail _ (.tail _ (.head _))) | exact .tail _ (.tail _ (.tail _ (.tail _ (.head _)))) | exact .tail _ (.tail _ (.tail _ (.tail _ (.tail _ (.head _)))))) Try.isAgg3 rfl ?_); (try simp only [Act.put, List.setIfInBounds_toArray, List.set_cons_zero, List.set_cons_succ]))
      | ((with_reducible refine qg_call ?_); (refine q_call (f := 15) rfl rfl Try.call15 rfl (fun wN HON => (get_calls' F true 1000 gx G1.out wN)) ?_); (try simp only [Act.put, List.setIfInBounds_toArray, List.set_cons_zero, List.set_cons_succ]))
      | ((refine q_val rfl (fun w => by simp only [execOp]; first | (go_simp; done) | (go_simp; rfl)) ?_); (try simp only [Act.put, List.setIfInBounds_toArray, List.set_cons_zero, List.set_cons_succ])))
              refine wpQuiet_nil ?_
              intro wZ HOz; clear HO; have HO := HOz; clear HOz
              go_wp2_with (first
      | ((with_reducible refine gate ?_); (first
      | ((refine own_box HO rfl rfl rfl ?_); clear HO; intro gN wN hgN HO; (simp only [List.nil_append, List.cons_append] at HO); (try simp only [Act.put, List.setIfInBounds_toArray, List.set_cons_zero, List.set_cons_succ]))
      | ((refine own_load1 (T := 3) HO rfl rfl rfl (by first | exact .head _ | exact .tail _ (.head _) | exact .tail _ (.tail _ (.head _)) | exact .tail _ (.tail _ (.tail _ (.head _))) | exact .tail _ (.tail _ (.tail _ (.tail _ (.head _)))) | exact .tail _ (.tail _ (.tail _ (.tail _ (.tail _ (.head _)))))) Try.isAgg3 rfl ?_); (try simp only [Act.put, List.setIfInBounds_toArray, List.set_cons_zero, List.set_cons_succ]))
      | ((refine own_store (T := 3) HO rfl rfl rfl rfl (by first | exact .here | exact .there (.here) | exact .there (.there (.here)) | exact .there (.there (.there (.here))) | exact .there (.there (.there (.there (.here)))) | exact .there (.there (.there (.there (.there (.here)))))) Try.sizeOf3 (by repeat constructor) rfl ?_); clear HO; intro wN HO; (try simp only [Act.put, List.setIfInBounds_toArray, List.set_cons_zero, List.set_cons_succ])))))
              go_roundw
              case rel => exact ⟨5, by omega, by rw [HM2.out], by rw [HC2.out], rfl, HO⟩
              case measure => exact meas12 4 (by omega)
          · by_cases h1 : getM F true 1002 = 1
            · have hg : getM F true 1002 = 1 := h1
              have G1 := Lib.hid hg
              have hm : micN F 6 = micN F 5 + 1 := by rw [micN_succ F 5 (by decide) 1002 rfl]; simp [isMouse, hg]
              have hc : codN F 6 = codN F 5 := by rw [codN_succ F 5 (by decide) 1002 rfl]; simp [isCoding, hg]
              have HM2 := Lib.hid hm
              have HC2 := Lib.hid hc
              have ha := micN_12 F 5
              have hb := codN_12 F 5
              have HA := Lib.hid ha
              have HB2 := Lib.hid hb
              obtain ⟨a, hae⟩ : ∃ a, micN F 5 = a := ⟨_, rfl⟩
              obtain ⟨b, hbe⟩ : ∃ b, codN F 5 = b := ⟨_, rfl⟩
              rw [hae] at HM2 HA ⊢
              rw [hbe] at HC2 HB2 ⊢
              clear hm hc ha hb hae hbe h1 hg
              go_wp2
              (refine region_quiet HO (by kernel_rfl) (by kernel_rfl) ?_); repeat (first
      | (go_big_quiet_skip)
      | ((with_reducible refine qg_move ?_); (refine q_move rfl rfl (by first | exact .const | exact .tmp rfl | exact .func) ?_); (try simp only [Act.put, List.setIfInBounds_toArray, List.set_cons_zero, List.set_cons_succ]))
      | ((with_reducible refine qg_assign ?_); (refine q_assign rfl rfl (by first | exact .const | exact .tmp rfl | exact .func) ?_); (try simp only [Act.put, List.setIfInBounds_toArray, List.set_cons_zero, List.set_cons_succ]))
      | ((with_reducible refine qg_pick ?_); (refine q_pick_true rfl rfl rfl (by first | exact .const | exact .tmp rfl | exact .func) ?_); (try simp only [Act.put, List.setIfInBounds_toArray, List.set_cons_zero, List.set_cons_succ]))
      | ((with_reducible refine qg_pick ?_); (refine q_pick_false rfl rfl rfl (by first | exact .const | exact .tmp rfl | exact .func) ?_); (try simp only [Act.put, List.setIfInBounds_toArray, List.set_cons_zero, List.set_cons_succ]))
      | ((with_reducible refine qg_load ?_); (refine q_load (T := 23) rfl rfl rfl (by first | exact .head _ | exact .tail _ (.head _) | exact .tail _ (.tail _ (.head _)) | exact .tail _ (.tail _ (.tail _ (.head _))) | exact .tail _ (.tail _ (.tail _ (.tail _ (.head _)))) | exact .tail _ (.tail _ (.tail _ (.tail _ (.tail _ (.head _)))))) Try.isAgg23 Try.sizeOf23 (by repeat constructor) ?_); (try simp only [Act.put, List.setIfInBounds_toArray, List.set_cons_zero, List.set_cons_succ]))
      | ((with_reducible refine qg_load ?_); (refine q_load1 (T := 3) rfl rfl rfl (by first | exact .head _ | exact .tail _ (.head _) | exact .tail _ (.tail _ (.head _)) | exact .tail _ (.tail _ (.tail _ (.head _))) | exact .tail _ (.tail _ (.tail _ (.tail _ (.head _)))) | exact .tail _ (.tail _ (.tail _ (.tail _ (.tail _ (.head _)))))) Try.isAgg3 rfl ?_); (try simp only [Act.put, List.setIfInBounds_toArray, List.set_cons_zero, List.set_cons_succ]))
      | ((with_reducible refine qg_call ?_); (refine q_call (f := 15) rfl rfl Try.call15 rfl (fun wN HON => (get_calls' F true 1002 1 G1.out wN)) ?_); (try simp only [Act.put, List.setIfInBounds_toArray, List.set_cons_zero, List.set_cons_succ]))
      | ((refine q_val rfl (fun w => by simp only [execOp]; first | (go_simp; done) | (go_simp; rfl)) ?_); (try simp only [Act.put, List.setIfInBounds_toArray, List.set_cons_zero, List.set_cons_succ])))
              refine wpQuiet_nil ?_
              intro wZ HOz; clear HO; have HO := HOz; clear HOz
              go_wp2_with (first
      | ((with_reducible refine gate ?_); (first
      | ((refine own_box HO rfl rfl rfl ?_); clear HO; intro gN wN hgN HO; (simp only [List.nil_append, List.cons_append] at HO); (try simp only [Act.put, List.setIfInBounds_toArray, List.set_cons_zero, List.set_cons_succ]))
      | ((refine own_load1 (T := 3) HO rfl rfl rfl (by first | exact .head _ | exact .tail _ (.head _) | exact .tail _ (.tail _ (.head _)) | exact .tail _ (.tail _ (.tail _ (.head _))) | exact .tail _ (.tail _ (.tail _ (.tail _ (.head _)))) | exact .tail _ (.tail _ (.tail _ (.tail _ (.tail _ (.head _)))))) Try.isAgg3 rfl ?_); (try simp only [Act.put, List.setIfInBounds_toArray, List.set_cons_zero, List.set_cons_succ]))
      | ((refine own_store (T := 3) HO rfl rfl rfl rfl (by first | exact .here | exact .there (.here) | exact .there (.there (.here)) | exact .there (.there (.there (.here))) | exact .there (.there (.there (.there (.here)))) | exact .there (.there (.there (.there (.there (.here)))))) Try.sizeOf3 (by repeat constructor) rfl ?_); clear HO; intro wN HO; (try simp only [Act.put, List.setIfInBounds_toArray, List.set_cons_zero, List.set_cons_succ])))))
              go_roundw
              case rel => exact ⟨6, by omega, by first | exact cnt_up _ _ HA.out HM2.out | exact cnt_up' _ _ HA.out HM2.out, by rw [HC2.out], rfl, HO⟩
              case measure => exact meas12 5 (by omega)
            · obtain ⟨gx, hgx⟩ : ∃ gx, getM F true 1002 = gx := ⟨_, rfl⟩
              have hm : micN F 6 = micN F 5 := by rw [micN_succ F 5 (by decide) 1002 rfl]; simp [isMouse, h1]
              have hc : codN F 6 = codN F 5 := by rw [codN_succ F 5 (by decide) 1002 rfl]; simp [isCoding, h1]
              rw [hgx] at h1
              have b1 : (gx != 1) = true := bne_iff_ne.2 h1
              have b2 : (gx == 1) = false := beq_eq_false_iff_ne.2 h1
              have G1 := Lib.hid hgx
              clear hgx
              have HM2 := Lib.hid hm
              have HC2 := Lib.hid hc
              have ha := micN_12 F 5
              have hb := codN_12 F 5
              have HA := Lib.hid ha
              have HB2 := Lib.hid hb
              obtain ⟨a, hae⟩ : ∃ a, micN F 5 = a := ⟨_, rfl⟩
              obtain ⟨b, hbe⟩ : ∃ b, codN F 5 = b := ⟨_, rfl⟩
              rw [hae] at HM2 HA ⊢
              rw [hbe] at HC2 HB2 ⊢
              clear hm hc ha hb hae hbe h1
              go_wp2
              (refine region_quiet HO (by kernel_rfl) (by kernel_rfl) ?_); repeat (first
      | (go_big_quiet_skip)
      | ((with_reducible refine qg_move ?_); (refine q_move rfl rfl (by first | exact .const | exact .tmp rfl | exact .func) ?_); (try simp only [Act.put, List.setIfInBounds_toArray, List.set_cons_zero, List.set_cons_succ]))
      | ((with_reducible refine qg_assign ?_); (refine q_assign rfl rfl (by first | exact .const | exact .tmp rfl | exact .func) ?_); (try simp only [Act.put, List.setIfInBounds_toArray, List.set_cons_zero, List.set_cons_succ]))
      | ((with_reducible refine qg_pick ?_); (refine q_pick_true rfl rfl rfl (by first | exact .const | exact .tmp rfl | exact .func) ?_); (try simp only [Act.put, List.setIfInBounds_toArray, List.set_cons_zero, List.set_cons_succ]))
      | ((with_reducible refine qg_pick ?_); (refine q_pick_false rfl rfl rfl (by first | exact .const | exact .tmp rfl | exact .func) ?_); (try simp only [Act.put, List.setIfInBounds_toArray, List.set_cons_zero, List.set_cons_succ]))
      | ((with_reducible refine qg_load ?_); (refine q_load (T := 23) rfl rfl rfl (by first | exact .head _ | exact .tail _ (.head _) | exact .tail _ (.tail _ (.head _)) | exact .tail _ (.tail _ (.tail _ (.head _))) | exact .tail _ (.tail _ (.tail _ (.tail _ (.head _)))) | exact .tail _ (.tail _ (.tail _ (.tail _ (.tail _ (.head _)))))) Try.isAgg23 Try.sizeOf23 (by repeat constructor) ?_); (try simp only [Act.put, List.setIfInBounds_toArray, List.set_cons_zero, List.set_cons_succ]))
      | ((with_reducible refine qg_load ?_); (refine q_load1 (T := 3) rfl rfl rfl (by first | exact .head _ | exact .tail _ (.head _) | exact .tail _ (.tail _ (.head _)) | exact .tail _ (.tail _ (.tail _ (.head _))) | exact .tail _ (.tail _ (.tail _ (.tail _ (.head _)))) | exact .tail _ (.tail _ (.tail _ (.tail _ (.tail _ (.head _)))))) Try.isAgg3 rfl ?_); (try simp only [Act.put, List.setIfInBounds_toArray, List.set_cons_zero, List.set_cons_succ]))
      | ((with_reducible refine qg_call ?_); (refine q_call (f := 15) rfl rfl Try.call15 rfl (fun wN HON => (get_calls' F true 1002 gx G1.out wN)) ?_); (try simp only [Act.put, List.setIfInBounds_toArray, List.set_cons_zero, List.set_cons_succ]))
      | ((refine q_val rfl (fun w => by simp only [execOp]; first | (go_simp; done) | (go_simp; rfl)) ?_); (try simp only [Act.put, List.setIfInBounds_toArray, List.set_cons_zero, List.set_cons_succ])))
              refine wpQuiet_nil ?_
              intro wZ HOz; clear HO; have HO := HOz; clear HOz
              go_wp2_with (first
      | ((with_reducible refine gate ?_); (first
      | ((refine own_box HO rfl rfl rfl ?_); clear HO; intro gN wN hgN HO; (simp only [List.nil_append, List.cons_append] at HO); (try simp only [Act.put, List.setIfInBounds_toArray, List.set_cons_zero, List.set_cons_succ]))
      | ((refine own_load1 (T := 3) HO rfl rfl rfl (by first | exact .head _ | exact .tail _ (.head _) | exact .tail _ (.tail _ (.head _)) | exact .tail _ (.tail _ (.tail _ (.head _))) | exact .tail _ (.tail _ (.tail _ (.tail _ (.head _)))) | exact .tail _ (.tail _ (.tail _ (.tail _ (.tail _ (.head _)))))) Try.isAgg3 rfl ?_); (try simp only [Act.put, List.setIfInBounds_toArray, List.set_cons_zero, List.set_cons_succ]))
      | ((refine own_store (T := 3) HO rfl rfl rfl rfl (by first | exact .here | exact .there (.here) | exact .there (.there (.here)) | exact .there (.there (.there (.here))) | exact .there (.there (.there (.there (.here)))) | exact .there (.there (.there (.there (.there (.here)))))) Try.sizeOf3 (by repeat constructor) rfl ?_); clear HO; intro wN HO; (try simp only [Act.put, List.setIfInBounds_toArray, List.set_cons_zero, List.set_cons_succ])))))
              go_roundw
              case rel => exact ⟨6, by omega, by rw [HM2.out], by rw [HC2.out], rfl, HO⟩
              case measure => exact meas12 5 (by omega)
          · by_cases h1 : getM F true 1003 = 1
            · have hg : getM F true 1003 = 1 := h1
              have G1 := Lib.hid hg
              have hm : micN F 7 = micN F 6 + 1 := by rw [micN_succ F 6 (by decide) 1003 rfl]; simp [isMouse, hg]
              have hc : codN F 7 = codN F 6 := by rw [codN_succ F 6 (by decide) 1003 rfl]; simp [isCoding, hg]
              have HM2 := Lib.hid hm
              have HC2 := Lib.hid hc
              have ha := micN_12 F 6
              have hb := codN_12 F 6
              have HA := Lib.hid ha
              have HB2 := Lib.hid hb
              obtain ⟨a, hae⟩ : ∃ a, micN F 6 = a := ⟨_, rfl⟩
              obtain ⟨b, hbe⟩ : ∃ b, codN F 6 = b := ⟨_, rfl⟩
              rw [hae] at HM2 HA ⊢
              rw [hbe] at HC2 HB2 ⊢
              clear hm hc ha hb hae hbe h1 hg
              go_wp2
              (refine region_quiet HO (by kernel_rfl) (by kernel_rfl) ?_); repeat (first
      | (go_big_quiet_skip)
      | ((with_reducible refine qg_move ?_); (refine q_move rfl rfl (by first | exact .const | exact .tmp rfl | exact .func) ?_); (try simp only [Act.put, List.setIfInBounds_toArray, List.set_cons_zero, List.set_cons_succ]))
      | ((with_reducible refine qg_assign ?_); (refine q_assign rfl rfl (by first | exact .const | exact .tmp rfl | exact .func) ?_); (try simp only [Act.put, List.setIfInBounds_toArray, List.set_cons_zero, List.set_cons_succ]))
      | ((with_reducible refine qg_pick ?_); (refine q_pick_true rfl rfl rfl (by first | exact .const | exact .tmp rfl | exact .func) ?_); (try simp only [Act.put, List.setIfInBounds_toArray, List.set_cons_zero, List.set_cons_succ]))
      | ((with_reducible refine qg_pick ?_); (refine q_pick_false rfl rfl rfl (by first | exact .const | exact .tmp rfl | exact .func) ?_); (try simp only [Act.put, List.setIfInBounds_toArray, List.set_cons_zero, List.set_cons_succ]))
      | ((with_reducible refine qg_load ?_); (refine q_load (T := 23) rfl rfl rfl (by first | exact .head _ | exact .tail _ (.head _) | exact .tail _ (.tail _ (.head _)) | exact .tail _ (.tail _ (.tail _ (.head _))) | exact .tail _ (.tail _ (.tail _ (.tail _ (.head _)))) | exact .tail _ (.tail _ (.tail _ (.tail _ (.tail _ (.head _)))))) Try.isAgg23 Try.sizeOf23 (by repeat constructor) ?_); (try simp only [Act.put, List.setIfInBounds_toArray, List.set_cons_zero, List.set_cons_succ]))
      | ((with_reducible refine qg_load ?_); (refine q_load1 (T := 3) rfl rfl rfl (by first | exact .head _ | exact .tail _ (.head _) | exact .tail _ (.tail _ (.head _)) | exact .tail _ (.tail _ (.tail _ (.head _))) | exact .tail _ (.tail _ (.tail _ (.tail _ (.head _)))) | exact .tail _ (.tail _ (.tail _ (.tail _ (.tail _ (.head _)))))) Try.isAgg3 rfl ?_); (try simp only [Act.put, List.setIfInBounds_toArray, List.set_cons_zero, List.set_cons_succ]))
      | ((with_reducible refine qg_call ?_); (refine q_call (f := 15) rfl rfl Try.call15 rfl (fun wN HON => (get_calls' F true 1003 1 G1.out wN)) ?_); (try simp only [Act.put, List.setIfInBounds_toArray, List.set_cons_zero, List.set_cons_succ]))
      | ((refine q_val rfl (fun w => by simp only [execOp]; first | (go_simp; done) | (go_simp; rfl)) ?_); (try simp only [Act.put, List.setIfInBounds_toArray, List.set_cons_zero, List.set_cons_succ])))
              refine wpQuiet_nil ?_
              intro wZ HOz; clear HO; have HO := HOz; clear HOz
              go_wp2_with (first
      | ((with_reducible refine gate ?_); (first
      | ((refine own_box HO rfl rfl rfl ?_); clear HO; intro gN wN hgN HO; (simp only [List.nil_append, List.cons_append] at HO); (try simp only [Act.put, List.setIfInBounds_toArray, List.set_cons_zero, List.set_cons_succ]))
      | ((refine own_load1 (T := 3) HO rfl rfl rfl (by first | exact .head _ | exact .tail _ (.head _) | exact .tail _ (.tail _ (.head _)) | exact .tail _ (.tail _ (.tail _ (.head _))) | exact .tail _ (.tail _ (.tail _ (.tail _ (.head _)))) | exact .tail _ (.tail _ (.tail _ (.tail _ (.tail _ (.head _)))))) Try.isAgg3 rfl ?_); (try simp only [Act.put, List.setIfInBounds_toArray, List.set_cons_zero, List.set_cons_succ]))
      | ((refine own_store (T := 3) HO rfl rfl rfl rfl (by first | exact .here | exact .there (.here) | exact .there (.there (.here)) | exact .there (.there (.there (.here))) | exact .there (.there (.there (.there (.here)))) | exact .there (.there (.there (.there (.there (.here)))))) Try.sizeOf3 (by repeat constructor) rfl ?_); clear HO; intro wN HO; (try simp only [Act.put, List.setIfInBounds_toArray, List.set_cons_zero, List.set_cons_succ])))))
              go_roundw
              case rel => exact ⟨7, by omega, by first | exact cnt_up _ _ HA.out HM2.out | exact cnt_up' _ _ HA.out HM2.out, by rw [HC2.out], rfl, HO⟩
              case measure => exact meas12 6 (by omega)
            · obtain ⟨gx, hgx⟩ : ∃ gx, getM F true 1003 = gx := ⟨_, rfl⟩
              have hm : micN F 7 = micN F 6 := by rw [micN_succ F 6 (by decide) 1003 rfl]; simp [isMouse, h1]
              have hc : codN F 7 = codN F 6 := by rw [codN_succ F 6 (by decide) 1003 rfl]; simp [isCoding, h1]
              rw [hgx] at h1
              have b1 : (gx != 1) = true := bne_iff_ne.2 h1
              have b2 : (gx == 1) = false := beq_eq_false_iff_ne.2 h1
              have G1 := Lib.hid hgx
              clear hgx
              have HM2 := Lib.hid hm
              have HC2 := Lib.hid hc
              have ha := micN_12 F 6
              have hb := codN_12 F 6
              have HA := Lib.hid ha
              have HB2 := Lib.hid hb
              obtain ⟨a, hae⟩ : ∃ a, micN F 6 = a := ⟨_, rfl⟩
              obtain ⟨b, hbe⟩ : ∃ b, codN F 6 = b := ⟨_, rfl⟩
              rw [hae] at HM2 HA ⊢
              rw [hbe] at HC2 HB2 ⊢
              clear hm hc ha hb hae hbe h1
              go_wp2
              (refine region_quiet HO (by kernel_rfl) (by kernel_rfl) ?_); repeat (first
      | (go_big_quiet_skip)
      | ((with_reducible refine qg_move ?_); (refine q_move rfl rfl (by first | exact .const | exact .tmp rfl | exact .func) ?_); (try simp only [Act.put, List.setIfInBounds_toArray, List.set_cons_zero, List.set_cons_succ]))
      | ((with_reducible refine qg_assign ?_); (refine q_assign rfl rfl (by first | exact .const | exact .tmp rfl | exact .func) ?_); (try simp only [Act.put, List.setIfInBounds_toArray, List.set_cons_zero, List.set_cons_succ]))
      | ((with_reducible refine qg_pick ?_); (refine q_pick_true rfl rfl rfl (by first | exact .const | exact .tmp rfl | exact .func) ?_); (try simp only [Act.put, List.setIfInBounds_toArray, List.set_cons_zero, List.set_cons_succ]))
      | ((with_reducible refine qg_pick ?_); (refine q_pick_false rfl rfl rfl (by first | exact .const | exact .tmp rfl | exact .func) ?_); (try simp only [Act.put, List.setIfInBounds_toArray, List.set_cons_zero, List.set_cons_succ]))
      | ((with_reducible refine qg_load ?_); (refine q_load (T := 23) rfl rfl rfl (by first | exact .head _ | exact .tail _ (.head _) | exact .tail _ (.tail _ (.head _)) | exact .tail _ (.tail _ (.tail _ (.head _))) | exact .tail _ (.tail _ (.tail _ (.tail _ (.head _)))) | exact .tail _ (.tail _ (.tail _ (.tail _ (.tail _ (.head _)))))) Try.isAgg23 Try.sizeOf23 (by repeat constructor) ?_); (try simp only [Act.put, List.setIfInBounds_toArray, List.set_cons_zero, List.set_cons_succ]))
      | ((with_reducible refine qg_load ?_); (refine q_load1 (T := 3) rfl rfl rfl (by first | exact .head _ | exact .tail _ (.head _) | exact .tail _ (.tail _ (.head _)) | exact .tail _ (.tail _ (.tail _ (.head _))) | exact .tail _ (.tail _ (.tail _ (.tail _ (.head _)))) | exact .tail _ (.tail _ (.tail _ (.tail _ (.tail _ (.head _)))))) Try.isAgg3 rfl ?_); (try simp only [Act.put, List.setIfInBounds_toArray, List.set_cons_zero, List.set_cons_succ]))
      | ((with_reducible refine qg_call ?_); (refine q_call (f := 15) rfl rfl Try.call15 rfl (fun wN HON => (get_calls' F true 1003 gx G1.out wN)) ?_); (try simp only [Act.put, List.setIfInBounds_toArray, List.set_cons_zero, List.set_cons_succ]))
      | ((refine q_val rfl (fun w => by simp only [execOp]; first | (go_simp; done) | (go_simp; rfl)) ?_); (try simp only [Act.put, List.setIfInBounds_toArray, List.set_cons_zero, List.set_cons_succ])))
              refine wpQuiet_nil ?_
              intro wZ HOz; clear HO; have HO := HOz; clear HOz
              go_wp2_with (first
      | ((with_reducible refine gate ?_); (first
      | ((refine own_box HO rfl rfl rfl ?_); clear HO; intro gN wN hgN HO; (simp only [List.nil_append, List.cons_append] at HO); (try simp only [Act.put, List.setIfInBounds_toArray, List.set_cons_zero, List.set_cons_succ]))
      | ((refine own_load1 (T := 3) HO rfl rfl rfl (by first | exact .head _ | exact .tail _ (.head _) | exact .tail _ (.tail _ (.head _)) | exact .tail _ (.tail _ (.tail _ (.head _))) | exact .tail _ (.tail _ (.tail _ (.tail _ (.head _)))) | exact .tail _ (.tail _ (.tail _ (.tail _ (.tail _ (.head _)))))) Try.isAgg3 rfl ?_); (try simp only [Act.put, List.setIfInBounds_toArray, List.set_cons_zero, List.set_cons_succ]))
      | ((refine own_store (T := 3) HO rfl rfl rfl rfl (by first | exact .here | exact .there (.here) | exact .there (.there (.here)) | exact .there (.there (.there (.here))) | exact .there (.there (.there (.there (.here)))) | exact .there (.there (.there (.there (.there (.here)))))) Try.sizeOf3 (by repeat constructor) rfl ?_); clear HO; intro wN HO; (try simp only [Act.put, List.setIfInBounds_toArray, List.set_cons_zero, List.set_cons_succ])))))
              go_roundw
              case rel => exact ⟨7, by omega, by rw [HM2.out], by rw [HC2.out], rfl, HO⟩
              case measure => exact meas12 6 (by omega)
          · by_cases h1 : getM F true 1004 = 1
            · have hg : getM F true 1004 = 1 := h1
              have G1 := Lib.hid hg
              have hm : micN F 8 = micN F 7 := by rw [micN_succ F 7 (by decide) 1004 rfl]; simp [isMouse, hg]
              have hc : codN F 8 = codN F 7 := by rw [codN_succ F 7 (by decide) 1004 rfl]; simp [isCoding, hg]
              have HM2 := Lib.hid hm
              have HC2 := Lib.hid hc
              have ha := micN_12 F 7
              have hb := codN_12 F 7
              have HA := Lib.hid ha
              have HB2 := Lib.hid hb
              obtain ⟨a, hae⟩ : ∃ a, micN F 7 = a := ⟨_, rfl⟩
              obtain ⟨b, hbe⟩ : ∃ b, codN F 7 = b := ⟨_, rfl⟩
              rw [hae] at HM2 HA ⊢
              rw [hbe] at HC2 HB2 ⊢
              clear hm hc ha hb hae hbe h1 hg
              go_wp2
              (refine region_quiet HO (by kernel_rfl) (by kernel_rfl) ?_); repeat (first
      | (go_big_quiet_skip)
      | ((with_reducible refine qg_move ?_); (refine q_move rfl rfl (by first | exact .const | exact .tmp rfl | exact .func) ?_); (try simp only [Act.put, List.setIfInBounds_toArray, List.set_cons_zero, List.set_cons_succ]))
      | ((with_reducible refine qg_assign ?_); (refine q_assign rfl rfl (by first | exact .const | exact .tmp rfl | exact .func) ?_); (try simp only [Act.put, List.setIfInBounds_toArray, List.set_cons_zero, List.set_cons_succ]))
      | ((with_reducible refine qg_pick ?_); (refine q_pick_true rfl rfl rfl (by first | exact .const | exact .tmp rfl | exact .func) ?_); (try simp only [Act.put, List.setIfInBounds_toArray, List.set_cons_zero, List.set_cons_succ]))
      | ((with_reducible refine qg_pick ?_); (refine q_pick_false rfl rfl rfl (by first | exact .const | exact .tmp rfl | exact .func) ?_); (try simp only [Act.put, List.setIfInBounds_toArray, List.set_cons_zero, List.set_cons_succ]))
      | ((with_reducible refine qg_load ?_); (refine q_load (T := 23) rfl rfl rfl (by first | exact .head _ | exact .tail _ (.head _) | exact .tail _ (.tail _ (.head _)) | exact .tail _ (.tail _ (.tail _ (.head _))) | exact .tail _ (.tail _ (.tail _ (.tail _ (.head _)))) | exact .tail _ (.tail _ (.tail _ (.tail _ (.tail _ (.head _)))))) Try.isAgg23 Try.sizeOf23 (by repeat constructor) ?_); (try simp only [Act.put, List.setIfInBounds_toArray, List.set_cons_zero, List.set_cons_succ]))
      | ((with_reducible refine qg_load ?_); (refine q_load1 (T := 3) rfl rfl rfl (by first | exact .head _ | exact .tail _ (.head _) | exact .tail _ (.tail _ (.head _)) | exact .tail _ (.tail _ (.tail _ (.head _))) | exact .tail _ (.tail _ (.tail _ (.tail _ (.head _)))) | exact .tail _ (.tail _ (.tail _ (.tail _ (.tail _ (.head _)))))) Try.isAgg3 rfl ?_); (try simp only [Act.put, List.setIfInBounds_toArray, List.set_cons_zero, List.set_cons_succ]))
      | ((with_reducible refine qg_call ?_); (refine q_call (f := 15) rfl rfl Try.call15 rfl (fun wN HON => (get_calls' F true 1004 1 G1.out wN)) ?_); (try simp only [Act.put, List.setIfInBounds_toArray, List.set_cons_zero, List.set_cons_succ]))
      | ((refine q_val rfl (fun w => by simp only [execOp]; first | (go_simp; done) | (go_simp; rfl)) ?_); (try simp only [Act.put, List.setIfInBounds_toArray, List.set_cons_zero, List.set_cons_succ])))
              refine wpQuiet_nil ?_
              intro wZ HOz; clear HO; have HO := HOz; clear HOz
              go_wp2_with (first
      | ((with_reducible refine gate ?_); (first
      | ((refine own_box HO rfl rfl rfl ?_); clear HO; intro gN wN hgN HO; (simp only [List.nil_append, List.cons_append] at HO); (try simp only [Act.put, List.setIfInBounds_toArray, List.set_cons_zero, List.set_cons_succ]))
      | ((refine own_load1 (T := 3) HO rfl rfl rfl (by first | exact .head _ | exact .tail _ (.head _) | exact .tail _ (.tail _ (.head _)) | exact .tail _ (.tail _ (.tail _ (.head _))) | exact .tail _ (.tail _ (.tail _ (.tail _ (.head _)))) | exact .tail _ (.tail _ (.tail _ (.tail _ (.tail _ (.head _)))))) Try.isAgg3 rfl ?_); (try simp only [Act.put, List.setIfInBounds_toArray, List.set_cons_zero, List.set_cons_succ]))
      | ((refine own_store (T := 3) HO rfl rfl rfl rfl (by first | exact .here | exact .there (.here) | exact .there (.there (.here)) | exact .there (.there (.there (.here))) | exact .there (.there (.there (.there (.here)))) | exact .there (.there (.there (.there (.there (.here)))))) Try.sizeOf3 (by repeat constructor) rfl ?_); clear HO; intro wN HO; (try simp only [Act.put, List.setIfInBounds_toArray, List.set_cons_zero, List.set_cons_succ])))))
              go_roundw
              case rel => exact ⟨8, by omega, by rw [HM2.out], by rw [HC2.out], rfl, HO⟩
              case measure => exact meas12 7 (by omega)
            · obtain ⟨gx, hgx⟩ : ∃ gx, getM F true 1004 = gx := ⟨_, rfl⟩
              have hm : micN F 8 = micN F 7 := by rw [micN_succ F 7 (by decide) 1004 rfl]; simp [isMouse, h1]
              have hc : codN F 8 = codN F 7 := by rw [codN_succ F 7 (by decide) 1004 rfl]; simp [isCoding, h1]
              rw [hgx] at h1
              have b1 : (gx != 1) = true := bne_iff_ne.2 h1
              have b2 : (gx == 1) = false := beq_eq_false_iff_ne.2 h1
              have G1 := Lib.hid hgx
              clear hgx
              have HM2 := Lib.hid hm
              have HC2 := Lib.hid hc
              have ha := micN_12 F 7
              have hb := codN_12 F 7
              have HA := Lib.hid ha
              have HB2 := Lib.hid hb
              obtain ⟨a, hae⟩ : ∃ a, micN F 7 = a := ⟨_, rfl⟩
              obtain ⟨b, hbe⟩ : ∃ b, codN F 7 = b := ⟨_, rfl⟩
              rw [hae] at HM2 HA ⊢
              rw [hbe] at HC2 HB2 ⊢
              clear hm hc ha hb hae hbe h1
              go_wp2
              (refine region_quiet HO (by kernel_rfl) (by kernel_rfl) ?_); repeat (first
      | (go_big_quiet_skip)
      | ((with_reducible refine qg_move ?_); (refine q_move rfl rfl (by first | exact .const | exact .tmp rfl | exact .func) ?_); (try simp only [Act.put, List.setIfInBounds_toArray, List.set_cons_zero, List.set_cons_succ]))
      | ((with_reducible refine qg_assign ?_); (refine q_assign rfl rfl (by first | exact .const | exact .tmp rfl | exact .func) ?_); (try simp only [Act.put, List.setIfInBounds_toArray, List.set_cons_zero, List.set_cons_succ]))
      | ((with_reducible refine qg_pick ?_); (refine q_pick_true rfl rfl rfl (by first | exact .const | exact .tmp rfl | exact .func) ?_); (try simp only [Act.put, List.setIfInBounds_toArray, List.set_cons_zero, List.set_cons_succ]))
      | ((with_reducible refine qg_pick ?_); (refine q_pick_false rfl rfl rfl (by first | exact .const | exact .tmp rfl | exact .func) ?_); (try simp only [Act.put, List.setIfInBounds_toArray, List.set_cons_zero, List.set_cons_succ]))
      | ((with_reducible refine qg_load ?_); (refine q_load (T := 23) rfl rfl rfl (by first | exact .head _ | exact .tail _ (.head _) | exact .tail _ (.tail _ (.head _)) | exact .tail _ (.tail _ (.tail _ (.head _))) | exact .tail _ (.tail _ (.tail _ (.tail _ (.head _)))) | exact .tail _ (.tail _ (.tail _ (.tail _ (.tail _ (.head _)))))) Try.isAgg23 Try.sizeOf23 (by repeat constructor) ?_); (try simp only [Act.put, List.setIfInBounds_toArray, List.set_cons_zero, List.set_cons_succ]))
      | ((with_reducible refine qg_load ?_); (refine q_load1 (T := 3) rfl rfl rfl (by first | exact .head _ | exact .tail _ (.head _) | exact .tail _ (.tail _ (.head _)) | exact .tail _ (.tail _ (.tail _ (.head _))) | exact .tail _ (.tail _ (.tail _ (.tail _ (.head _)))) | exact .tail _ (.tail _ (.tail _ (.tail _ (.tail _ (.head _)))))) Try.isAgg3 rfl ?_); (try simp only [Act.put, List.setIfInBounds_toArray, List.set_cons_zero, List.set_cons_succ]))
      | ((with_reducible refine qg_call ?_); (refine q_call (f := 15) rfl rfl Try.call15 rfl (fun wN HON => (get_calls' F true 1004 gx G1.out wN)) ?_); (try simp only [Act.put, List.setIfInBounds_toArray, List.set_cons_zero, List.set_cons_succ]))
      | ((refine q_val rfl (fun w => by simp only [execOp]; first | (go_simp; done) | (go_simp; rfl)) ?_); (try simp only [Act.put, List.setIfInBounds_toArray, List.set_cons_zero, List.set_cons_succ])))
              refine wpQuiet_nil ?_
              intro wZ HOz; clear HO; have HO := HOz; clear HOz
              go_wp2_with (first
      | ((with_reducible refine gate ?_); (first
      | ((refine own_box HO rfl rfl rfl ?_); clear HO; intro gN wN hgN HO; (simp only [List.nil_append, List.cons_append] at HO); (try simp only [Act.put, List.setIfInBounds_toArray, List.set_cons_zero, List.set_cons_succ]))
      | ((refine own_load1 (T := 3) HO rfl rfl rfl (by first | exact .head _ | exact .tail _ (.head _) | exact .tail _ (.tail _ (.head _)) | exact .tail _ (.tail _ (.tail _ (.head _))) | exact .tail _ (.tail _ (.tail _ (.tail _ (.head _)))) | exact .tail _ (.tail _ (.tail _ (.tail _ (.tail _ (.head _)))))) Try.isAgg3 rfl ?_); (try simp only [Act.put, List.setIfInBounds_toArray, List.set_cons_zero, List.set_cons_succ]))
      | ((refine own_store (T := 3) HO rfl rfl rfl rfl (by first | exact .here | exact .there (.here) | exact .there (.there (.here)) | exact .there (.there (.there (.here))) | exact .there (.there (.there (.there (.here)))) | exact .there (.there (.there (.there (.there (.here)))))) Try.sizeOf3 (by repeat constructor) rfl ?_); clear HO; intro wN HO; (try simp only [Act.put, List.setIfInBounds_toArray, List.set_cons_zero, List.set_cons_succ])))))
              go_roundw
              case rel => exact ⟨8, by omega, by rw [HM2.out], by rw [HC2.out], rfl, HO⟩
              case measure => exact meas12 7 (by omega)
          · by_cases h1 : getM F true 1005 = 1
            · have hg : getM F true 1005 = 1 := h1
              have G1 := Lib.hid hg
              have hm : micN F 9 = micN F 8 := by rw [micN_succ F 8 (by decide) 1005 rfl]; simp [isMouse, hg]
              have hc : codN F 9 = codN F 8 + 1 := by rw [codN_succ F 8 (by decide) 1005 rfl]; simp [isCoding, hg]
              have HM2 := Lib.hid hm
              have HC2 := Lib.hid hc
              have ha := micN_12 F 8
              have hb := codN_12 F 8
              have HA := Lib.hid ha
              have HB2 := Lib.hid hb
              obtain ⟨a, hae⟩ : ∃ a, micN F 8 = a := ⟨_, rfl⟩
              obtain ⟨b, hbe⟩ : ∃ b, codN F 8 = b := ⟨_, rfl⟩
              rw [hae] at HM2 HA ⊢
              rw [hbe] at HC2 HB2 ⊢
              clear hm hc ha hb hae hbe h1 hg
              go_wp2
              (refine region_quiet HO (by kernel_rfl) (by kernel_rfl) ?_); repeat (first
      | (go_big_quiet_skip)
      | ((with_reducible refine qg_move ?_); (refine q_move rfl rfl (by first | exact .const | exact .tmp rfl | exact .func) ?_); (try simp only [Act.put, List.setIfInBounds_toArray, List.set_cons_zero, List.set_cons_succ]))
      | ((with_reducible refine qg_assign ?_); (refine q_assign rfl rfl (by first | exact .const | exact .tmp rfl | exact .func) ?_); (try simp only [Act.put, List.setIfInBounds_toArray, List.set_cons_zero, List.set_cons_succ]))
      | ((with_reducible refine qg_pick ?_); (refine q_pick_true rfl rfl rfl (by first | exact .const | exact .tmp rfl | exact .func) ?_); (try simp only [Act.put, List.setIfInBounds_toArray, List.set_cons_zero, List.set_cons_succ]))
      | ((with_reducible refine qg_pick ?_); (refine q_pick_false rfl rfl rfl (by first | exact .const | exact .tmp rfl | exact .func) ?_); (try simp only [Act.put, List.setIfInBounds_toArray, List.set_cons_zero, List.set_cons_succ]))
      | ((with_reducible refine qg_load ?_); (refine q_load (T := 23) rfl rfl rfl (by first | exact .head _ | exact .tail _ (.head _) | exact .tail _ (.tail _ (.head _)) | exact .tail _ (.tail _ (.tail _ (.head _))) | exact .tail _ (.tail _ (.tail _ (.tail _ (.head _)))) | exact .tail _ (.tail _ (.tail _ (.tail _ (.tail _ (.head _)))))) Try.isAgg23 Try.sizeOf23 (by repeat constructor) ?_); (try simp only [Act.put, List.setIfInBounds_toArray, List.set_cons_zero, List.set_cons_succ]))
      | ((with_reducible refine qg_load ?_); (refine q_load1 (T := 3) rfl rfl rfl (by first | exact .head _ | exact .tail _ (.head _) | exact .tail _ (.tail _ (.head _)) | exact .tail _ (.tail _ (.tail _ (.head _))) | exact .tail _ (.tail _ (.tail _ (.tail _ (.head _)))) | exact .tail _ (.tail _ (.tail _ (.tail _ (.tail _ (.head _)))))) Try.isAgg3 rfl ?_); (try simp only [Act.put, List.setIfInBounds_toArray, List.set_cons_zero, List.set_cons_succ]))
      | ((with_reducible refine qg_call ?_); (refine q_call (f := 15) rfl rfl Try.call15 rfl (fun wN HON => (get_calls' F true 1005 1 G1.out wN)) ?_); (try simp only [Act.put, List.setIfInBounds_toArray, List.set_cons_zero, List.set_cons_succ]))
      | ((refine q_val rfl (fun w => by simp only [execOp]; first | (go_simp; done) | (go_simp; rfl)) ?_); (try simp only [Act.put, List.setIfInBounds_toArray, List.set_cons_zero, List.set_cons_succ])))
              refine wpQuiet_nil ?_
              intro wZ HOz; clear HO; have HO := HOz; clear HOz
              go_wp2_with (first
      | ((with_reducible refine gate ?_); (first
      | ((refine own_box HO rfl rfl rfl ?_); clear HO; intro gN wN hgN HO; (simp only [List.nil_append, List.cons_append] at HO); (try simp only [Act.put, List.setIfInBounds_toArray, List.set_cons_zero, List.set_cons_succ]))
      | ((refine own_load1 (T := 3) HO rfl rfl rfl (by first | exact .head _ | exact .tail _ (.head _) | exact .tail _ (.tail _ (.head _)) | exact .tail _ (.tail _ (.tail _ (.head _))) | exact .tail _ (.tail _ (.tail _ (.tail _ (.head _)))) | exact .tail _ (.tail _ (.tail _ (.tail _ (.tail _ (.head _)))))) Try.isAgg3 rfl ?_); (try simp only [Act.put, List.setIfInBounds_toArray, List.set_cons_zero, List.set_cons_succ]))
      | ((refine own_store (T := 3) HO rfl rfl rfl rfl (by first | exact .here | exact .there (.here) | exact .there (.there (.here)) | exact .there (.there (.there (.here))) | exact .there (.there (.there (.there (.here)))) | exact .there (.there (.there (.there (.there (.here)))))) Try.sizeOf3 (by repeat constructor) rfl ?_); clear HO; intro wN HO; (try simp only [Act.put, List.setIfInBounds_toArray, List.set_cons_zero, List.set_cons_succ])))))
              go_roundw
              case rel => exact ⟨9, by omega, by rw [HM2.out], by first | exact cnt_up _ _ HB2.out HC2.out | exact cnt_up' _ _ HB2.out HC2.out, rfl, HO⟩
              case measure => exact meas12 8 (by omega)
            · obtain ⟨gx, hgx⟩ : ∃ gx, getM F true 1005 = gx := ⟨_, rfl⟩
              have hm : micN F 9 = micN F 8 := by rw [micN_succ F 8 (by decide) 1005 rfl]; simp [isMouse, h1]
              have hc : codN F 9 = codN F 8 := by rw [codN_succ F 8 (by decide) 1005 rfl]; simp [isCoding, h1]
              rw [hgx] at h1
              have b1 : (gx != 1) = true := bne_iff_ne.2 h1
              have b2 : (gx == 1) = false := beq_eq_false_iff_ne.2 h1
              have G1 := Lib.hid hgx
              clear hgx
              have HM2 := Lib.hid hm
              have HC2 := Lib.hid hc
              have ha := micN_12 F 8
              have hb := codN_12 F 8
              have HA := Lib.hid ha
              have HB2 := Lib.hid hb
              obtain ⟨a, hae⟩ : ∃ a, micN F 8 = a := ⟨_, rfl⟩
              obtain ⟨b, hbe⟩ : ∃ b, codN F 8 = b := ⟨_, rfl⟩
              rw [hae] at HM2 HA ⊢
              rw [hbe] at HC2 HB2 ⊢
              clear hm hc ha hb hae hbe h1
              go_wp2
              (refine region_quiet HO (by kernel_rfl) (by kernel_rfl) ?_); repeat (first
      | (go_big_quiet_skip)
      | ((with_reducible refine qg_move ?_); (refine q_move rfl rfl (by first | exact .const | exact .tmp rfl | exact .func) ?_); (try simp only [Act.put, List.setIfInBounds_toArray, List.set_cons_zero, List.set_cons_succ]))
      | ((with_reducible refine qg_assign ?_); (refine q_assign rfl rfl (by first | exact .const | exact .tmp rfl | exact .func) ?_); (try simp only [Act.put, List.setIfInBounds_toArray, List.set_cons_zero, List.set_cons_succ]))
      | ((with_reducible refine qg_pick ?_); (refine q_pick_true rfl rfl rfl (by first | exact .const | exact .tmp rfl | exact .func) ?_); (try simp only [Act.put, List.setIfInBounds_toArray, List.set_cons_zero, List.set_cons_succ]))
      | ((with_reducible refine qg_pick ?_); (refine q_pick_false rfl rfl rfl (by first | exact .const | exact .tmp rfl | exact .func) ?_); (try simp only [Act.put, List.setIfInBounds_toArray, List.set_cons_zero, List.set_cons_succ]))
      | ((with_reducible refine qg_load ?_); (refine q_load (T := 23) rfl rfl rfl (by first | exact .head _ | exact .tail _ (.head _) | exact .tail _ (.tail _ (.head _)) | exact .tail _ (.tail _ (.tail _ (.head _))) | exact .tail _ (.tail _ (.tail _ (.tail _ (.head _)))) | exact .tail _ (.tail _ (.tail _ (.tail _ (.tail _ (.head _)))))) Try.isAgg23 Try.sizeOf23 (by repeat constructor) ?_); (try simp only [Act.put, List.setIfInBounds_toArray, List.set_cons_zero, List.set_cons_succ]))
      | ((with_reducible refine qg_load ?_); (refine q_load1 (T := 3) rfl rfl rfl (by first | exact .head _ | exact .tail _ (.head _) | exact .tail _ (.tail _ (.head _)) | exact .tail _ (.tail _ (.tail _ (.head _))) | exact .tail _ (.tail _ (.tail _ (.tail _ (.head _)))) | exact .tail _ (.tail _ (.tail _ (.tail _ (.tail _ (.head _)))))) Try.isAgg3 rfl ?_); (try simp only [Act.put, List.setIfInBounds_toArray, List.set_cons_zero, List.set_cons_succ]))
      | ((with_reducible refine qg_call ?_); (refine q_call (f := 15) rfl rfl Try.call15 rfl (fun wN HON => (get_calls' F true 1005 gx G1.out wN)) ?_); (try simp only [Act.put, List.setIfInBounds_toArray, List.set_cons_zero, List.set_cons_succ]))
      | ((refine q_val rfl (fun w => by simp only [execOp]; first | (go_simp; done) | (go_simp; rfl)) ?_); (try simp only [Act.put, List.setIfInBounds_toArray, List.set_cons_zero, List.set_cons_succ])))
              refine wpQuiet_nil ?_
              intro wZ HOz; clear HO; have HO := HOz; clear HOz
              go_wp2_with (first
      | ((with_reducible refine gate ?_); (first
      | ((refine own_box HO rfl rfl rfl ?_); clear HO; intro gN wN hgN HO; (simp only [List.nil_append, List.cons_append] at HO); (try simp only [Act.put, List.setIfInBounds_toArray, List.set_cons_zero, List.set_cons_succ]))
      | ((refine own_load1 (T := 3) HO rfl rfl rfl (by first | exact .head _ | exact .tail _ (.head _) | exact .tail _ (.tail _ (.head _)) | exact .tail _ (.tail _ (.tail _ (.head _))) | exact .tail _ (.tail _ (.tail _ (.tail _ (.head _)))) | exact .tail _ (.tail _ (.tail _ (.tail _ (.tail _ (.head _)))))) Try.isAgg3 rfl ?_); (try simp only [Act.put, List.setIfInBounds_toArray, List.set_cons_zero, List.set_cons_succ]))
      | ((refine own_store (T := 3) HO rfl rfl rfl rfl (by first | exact .here | exact .there (.here) | exact .there (.there (.here)) | exact .there (.there (.there (.here))) | exact .there (.there (.there (.there (.here)))) | exact .there (.there (.there (.there (.there (.here)))))) Try.sizeOf3 (by repeat constructor) rfl ?_); clear HO; intro wN HO; (try simp only [Act.put, List.setIfInBounds_toArray, List.set_cons_zero, List.set_cons_succ])))))
              go_roundw
              case rel => exact ⟨9, by omega, by rw [HM2.out], by rw [HC2.out], rfl, HO⟩
              case measure => exact meas12 8 (by omega)
          · by_cases h1 : getM F true 1006 = 1
            · have hg : getM F true 1006 = 1 := h1
              have G1 := Lib.hid hg
              have hm : micN F 10 = micN F 9 := by rw [micN_succ F 9 (by decide) 1006 rfl]; simp [isMouse, hg]
              have hc : codN F 10 = codN F 9 + 1 := by rw [codN_succ F 9 (by decide) 1006 rfl]; simp [isCoding, hg]
              have HM2 := Lib.hid hm
              have HC2 := Lib.hid hc
              have ha := micN_12 F 9
              have hb := codN_12 F 9
              have HA := Lib.hid ha
              have HB2 := Lib.hid hb
              obtain ⟨a, hae⟩ : ∃ a, micN F 9 = a := ⟨_, rfl⟩
              obtain ⟨b, hbe⟩ : ∃ b, codN F 9 = b := ⟨_, rfl⟩
              rw [hae] at HM2 HA ⊢
              rw [hbe] at HC2 HB2 ⊢
              clear hm hc ha hb hae hbe h1 hg
              go_wp2
              (refine region_quiet HO (by kernel_rfl) (by kernel_rfl) ?_); repeat (first
      | (go_big_quiet_skip)
      | ((with_reducible refine qg_move ?_); (refine q_move rfl rfl (by first | exact .const | exact .tmp rfl | exact .func) ?_); (try simp only [Act.put, List.setIfInBounds_toArray, List.set_cons_zero, List.set_cons_succ]))
      | ((with_reducible refine qg_assign ?_); (refine q_assign rfl rfl (by first | exact .const | exact .tmp rfl | exact .func) ?_); (try simp only [Act.put, List.setIfInBounds_toArray, List.set_cons_zero, List.set_cons_succ]))
      | ((with_reducible refine qg_pick ?_); (refine q_pick_true rfl rfl rfl (by first | exact .const | exact .tmp rfl | exact .func) ?_); (try simp only [Act.put, List.setIfInBounds_toArray, List.set_cons_zero, List.set_cons_succ]))
      | ((with_reducible refine qg_pick ?_); (refine q_pick_false rfl rfl rfl (by first | exact .const | exact .tmp rfl | exact .func) ?_); (try simp only [Act.put, List.setIfInBounds_toArray, List.set_cons_zero, List.set_cons_succ]))
      | ((with_reducible refine qg_load ?_); (refine q_load (T := 23) rfl rfl rfl (by first | exact .head _ | exact .tail _ (.head _) | exact .tail _ (.tail _ (.head _)) | exact .tail _ (.tail _ (.tail _ (.head _))) | exact .tail _ (.tail _ (.tail _ (.tail _ (.head _)))) | exact .tail _ (.tail _ (.tail _ (.tail _ (.tail _ (.head _)))))) Try.isAgg23 Try.sizeOf23 (by repeat constructor) ?_); (try simp only [Act.put, List.setIfInBounds_toArray, List.set_cons_zero, List.set_cons_succ]))
      | ((with_reducible refine qg_load ?_); (refine q_load1 (T := 3) rfl rfl rfl (by first | exact .head _ | exact .tail _ (.head _) | exact .tail _ (.tail _ (.head _)) | exact .tail _ (.tail _ (.tail _ (.head _))) | exact .tail _ (.tail _ (.tail _ (.tail _ (.head _)))) | exact .tail _ (.tail _ (.tail _ (.tail _ (.tail _ (.head _)))))) Try.isAgg3 rfl ?_); (try simp only [Act.put, List.setIfInBounds_toArray, List.set_cons_zero, List.set_cons_succ]))
      | ((with_reducible refine qg_call ?_); (refine q_call (f := 15) rfl rfl Try.call15 rfl (fun wN HON => (get_calls' F true 1006 1 G1.out wN)) ?_); (try simp only [Act.put, List.setIfInBounds_toArray, List.set_cons_zero, List.set_cons_succ]))
      | ((refine q_val rfl (fun w => by simp only [execOp]; first | (go_simp; done) | (go_simp; rfl)) ?_); (try simp only [Act.put, List.setIfInBounds_toArray, List.set_cons_zero, List.set_cons_succ])))
              refine wpQuiet_nil ?_
              intro wZ HOz; clear HO; have HO := HOz; clear HOz
              go_wp2_with (first
      | ((with_reducible refine gate ?_); (first
      | ((refine own_box HO rfl rfl rfl ?_); clear HO; intro gN wN hgN HO; (simp only [List.nil_append, List.cons_append] at HO); (try simp only [Act.put, List.setIfInBounds_toArray, List.set_cons_zero, List.set_cons_succ]))
      | ((refine own_load1 (T := 3) HO rfl rfl rfl (by first | exact .head _ | exact .tail _ (.head _) | exact .tail _ (.tail _ (.head _)) | exact .tail _ (.tail _ (.tail _ (.head _))) | exact .tail _ (.tail _ (.tail _ (.tail _ (.head _)))) | exact .tail _ (.tail _ (.tail _ (.tail _ (.tail _ (.head _)))))) Try.isAgg3 rfl ?_); (try simp only [Act.put, List.setIfInBounds_toArray, List.set_cons_zero, List.set_cons_succ]))
      | ((refine own_store (T := 3) HO rfl rfl rfl rfl (by first | exact .here | exact .there (.here) | exact .there (.there (.here)) | exact .there (.there (.there (.here))) | exact .there (.there (.there (.there (.here)))) | exact .there (.there (.there (.there (.there (.here)))))) Try.sizeOf3 (by repeat constructor) rfl ?_); clear HO; intro wN HO; (try simp only [Act.put, List.setIfInBounds_toArray, List.set_cons_zero, List.set_cons_succ])))))
              go_roundw
              case rel => exact ⟨10, by omega, by rw [HM2.out], by first | exact cnt_up _ _ HB2.out HC2.out | exact cnt_up' _ _ HB2.out HC2.out, rfl, HO⟩
              case measure => exact meas12 9 (by omega)
            · obtain ⟨gx, hgx⟩ : ∃ gx, getM F true 1006 = gx := ⟨_, rfl⟩
              have hm : micN F 10 = micN F 9 := by rw [micN_succ F 9 (by decide) 1006 rfl]; simp [isMouse, h1]
              have hc : codN F 10 = codN F 9 := by rw [codN_succ F 9 (by decide) 1006 rfl]; simp [isCoding, h1]
              rw [hgx] at h1
              have b1 : (gx != 1) = true := bne_iff_ne.2 h1
              have b2 : (gx == 1) = false := beq_eq_false_iff_ne.2 h1
              have G1 := Lib.hid hgx
              clear hgx
              have HM2 := Lib.hid hm
              have HC2 := Lib.hid hc
              have ha := micN_12 F 9
              have hb := codN_12 F 9
              have HA := Lib.hid ha
              have HB2 := Lib.hid hb
              obtain ⟨a, hae⟩ : ∃ a, micN F 9 = a := ⟨_, rfl⟩
              obtain ⟨b, hbe⟩ : ∃ b, codN F 9 = b := ⟨_, rfl⟩
              rw [hae] at HM2 HA ⊢
              rw [hbe] at HC2 HB2 ⊢
              clear hm hc ha hb hae hbe h1
              go_wp2
              (refine region_quiet HO (by kernel_rfl) (by kernel_rfl) ?_); repeat (first
      | (go_big_quiet_skip)
      | ((with_reducible refine qg_move ?_); (refine q_move rfl rfl (by first | exact .const | exact .tmp rfl | exact .func) ?_); (try simp only [Act.put, List.setIfInBounds_toArray, List.set_cons_zero, List.set_cons_succ]))
      | ((with_reducible refine qg_assign ?_); (refine q_assign rfl rfl (by first | exact .const | exact .tmp rfl | exact .func) ?_); (try simp only [Act.put, List.setIfInBounds_toArray, List.set_cons_zero, List.set_cons_succ]))
      | ((with_reducible refine qg_pick ?_); (refine q_pick_true rfl rfl rfl (by first | exact .const | exact .tmp rfl | exact .func) ?_); (try simp only [Act.put, List.setIfInBounds_toArray, List.set_cons_zero, List.set_cons_succ]))
      | ((with_reducible refine qg_pick ?_); (refine q_pick_false rfl rfl rfl (by first | exact .const | exact .tmp rfl | exact .func) ?_); (try simp only [Act.put, List.setIfInBounds_toArray, List.set_cons_zero, List.set_cons_succ]))
      | ((with_reducible refine qg_load ?_); (refine q_load (T := 23) rfl rfl rfl (by first | exact .head _ | exact .tail _ (.head _) | exact .tail _ (.tail _ (.head _)) | exact .tail _ (.tail _ (.tail _ (.head _))) | exact .tail _ (.tail _ (.tail _ (.tail _ (.head _)))) | exact .tail _ (.tail _ (.tail _ (.tail _ (.tail _ (.head _)))))) Try.isAgg23 Try.sizeOf23 (by repeat constructor) ?_); (try simp only [Act.put, List.setIfInBounds_toArray, List.set_cons_zero, List.set_cons_succ]))
      | ((with_reducible refine qg_load ?_); (refine q_load1 (T := 3) rfl rfl rfl (by first | exact .head _ | exact .tail _ (.head _) | exact .tail _ (.tail _ (.head _)) | exact .tail _ (.tail _ (.tail _ (.head _))) | exact .tail _ (.tail _ (.tail _ (.tail _ (.head _)))) | exact .tail _ (.tail _ (.tail _ (.tail _ (.tail _ (.head _)))))) Try.isAgg3 rfl ?_); (try simp only [Act.put, List.setIfInBounds_toArray, List.set_cons_zero, List.set_cons_succ]))
      | ((with_reducible refine qg_call ?_); (refine q_call (f := 15) rfl rfl Try.call15 rfl (fun wN HON => (get_calls' F true 1006 gx G1.out wN)) ?_); (try simp only [Act.put, List.setIfInBounds_toArray, List.set_cons_zero, List.set_cons_succ]))
      | ((refine q_val rfl (fun w => by simp only [execOp]; first | (go_simp; done) | (go_simp; rfl)) ?_); (try simp only [Act.put, List.setIfInBounds_toArray, List.set_cons_zero, List.set_cons_succ])))
              refine wpQuiet_nil ?_
              intro wZ HOz; clear HO; have HO := HOz; clear HOz
              go_wp2_with (first
      | ((with_reducible refine gate ?_); (first
      | ((refine own_box HO rfl rfl rfl ?_); clear HO; intro gN wN hgN HO; (simp only [List.nil_append, List.cons_append] at HO); (try simp only [Act.put, List.setIfInBounds_toArray, List.set_cons_zero, List.set_cons_succ]))
      | ((refine own_load1 (T := 3) HO rfl rfl rfl (by first | exact .head _ | exact .tail _ (.head _) | exact .tail _ (.tail _ (.head _)) | exact .tail _ (.tail _ (.tail _ (.head _))) | exact .tail _ (.tail _ (.tail _ (.tail _ (.head _)))) | exact .tail _ (.tail _ (.tail _ (.tail _ (.tail _ (.head _)))))) Try.isAgg3 rfl ?_); (try simp only [Act.put, List.setIfInBounds_toArray, List.set_cons_zero, List.set_cons_succ]))
      | ((refine own_store (T := 3) HO rfl rfl rfl rfl (by first | exact .here | exact .there (.here) | exact .there (.there (.here)) | exact .there (.there (.there (.here))) | exact .there (.there (.there (.there (.here)))) | exact .there (.there (.there (.there (.there (.here)))))) Try.sizeOf3 (by repeat constructor) rfl ?_); clear HO; intro wN HO; (try simp only [Act.put, List.setIfInBounds_toArray, List.set_cons_zero, List.set_cons_succ])))))
              go_roundw
              case rel => exact ⟨10, by omega, by rw [HM2.out], by rw [HC2.out], rfl, HO⟩
              case measure => exact meas12 9 (by omega)
          · by_cases h1 : getM F true 1015 = 1
            · have hg : getM F true 1015 = 1 := h1
              have G1 := Lib.hid hg
              have hm : micN F 11 = micN F 10 := by rw [micN_succ F 10 (by decide) 1015 rfl]; simp [isMouse, hg]
              have hc : codN F 11 = codN F 10 + 1 := by rw [codN_succ F 10 (by decide) 1015 rfl]; simp [isCoding, hg]
              have HM2 := Lib.hid hm
              have HC2 := Lib.hid hc
              have ha := micN_12 F 10
              have hb := codN_12 F 10
              have HA := Lib.hid ha
              have HB2 := Lib.hid hb
              obtain ⟨a, hae⟩ : ∃ a, micN F 10 = a := ⟨_, rfl⟩
              obtain ⟨b, hbe⟩ : ∃ b, codN F 10 = b := ⟨_, rfl⟩
              rw [hae] at HM2 HA ⊢
              rw [hbe] at HC2 HB2 ⊢
              clear hm hc ha hb hae hbe h1 hg
              go_wp2
              (refine region_quiet HO (by kernel_rfl) (by kernel_rfl) ?_); repeat (first
      | (go_big_quiet_skip)
      | ((with_reducible refine qg_move ?_); (refine q_move rfl rfl (by first | exact .const | exact .tmp rfl | exact .func) ?_); (try simp only [Act.put, List.setIfInBounds_toArray, List.set_cons_zero, List.set_cons_succ]))
      | ((with_reducible refine qg_assign ?_); (refine q_assign rfl rfl (by first | exact .const | exact .tmp rfl | exact .func) ?_); (try simp only [Act.put, List.setIfInBounds_toArray, List.set_cons_zero, List.set_cons_succ]))
      | ((with_reducible refine qg_pick ?_); (refine q_pick_true rfl rfl rfl (by first | exact .const | exact .tmp rfl | exact .func) ?_); (try simp only [Act.put, List.setIfInBounds_toArray, List.set_cons_zero, List.set_cons_succ]))
      | ((with_reducible refine qg_pick ?_); (refine q_pick_false rfl rfl rfl (by first | exact .const | exact .tmp rfl | exact .func) ?_); (try simp only [Act.put, List.setIfInBounds_toArray, List.set_cons_zero, List.set_cons_succ]))
      | ((with_reducible refine qg_load ?_); (refine q_load (T := 23) rfl rfl rfl (by first | exact .head _ | exact .tail _ (.head _) | exact .tail _ (.tail _ (.head _)) | exact .tail _ (.tail _ (.tail _ (.head _))) | exact .tail _ (.tail _ (.tail _ (.tail _ (.head _)))) | exact .tail _ (.tail _ (.tail _ (.tail _ (.tail _ (.head _)))))) Try.isAgg23 Try.sizeOf23 (by repeat constructor) ?_); (try simp only [Act.put, List.setIfInBounds_toArray, List.set_cons_zero, List.set_cons_succ]))
      | ((with_reducible refine qg_load ?_); (refine q_load1 (T := 3) rfl rfl rfl (by first | exact .head _ | exact .tail _ (.head _) | exact .tail _ (.tail _ (.head _)) | exact .tail _ (.tail _ (.tail _ (.head _))) | exact .tail _ (.tail _ (.tail _ (.tail _ (.head _)))) | exact .tail _ (.tail _ (.tail _ (.tail _ (.tail _ (.head _)))))) Try.isAgg3 rfl ?_); (try simp only [Act.put, List.setIfInBounds_toArray, List.set_cons_zero, List.set_cons_succ]))
      | ((with_reducible refine qg_call ?_); (refine q_call (f := 15) rfl rfl Try.call15 rfl (fun wN HON => (get_calls' F true 1015 1 G1.out wN)) ?_); (try simp only [Act.put, List.setIfInBounds_toArray, List.set_cons_zero, List.set_cons_succ]))
      | ((refine q_val rfl (fun w => by simp only [execOp]; first | (go_simp; done) | (go_simp; rfl)) ?_); (try simp only [Act.put, List.setIfInBounds_toArray, List.set_cons_zero, List.set_cons_succ])))
              refine wpQuiet_nil ?_
              intro wZ HOz; clear HO; have HO := HOz; clear HOz
              go_wp2_with (first
      | ((with_reducible refine gate ?_); (first
      | ((refine own_box HO rfl rfl rfl ?_); clear HO; intro gN wN hgN HO; (simp only [List.nil_append, List.cons_append] at HO); (try simp only [Act.put, List.setIfInBounds_toArray, List.set_cons_zero, List.set_cons_succ]))
      | ((refine own_load1 (T := 3) HO rfl rfl rfl (by first | exact .head _ | exact .tail _ (.head _) | exact .tail _ (.tail _ (.head _)) | exact .tail _ (.tail _ (.tail _ (.head _))) | exact .tail _ (.tail _ (.tail _ (.tail _ (.head _)))) | exact .tail _ (.tail _ (.tail _ (.tail _ (.tail _ (.head _)))))) Try.isAgg3 rfl ?_); (try simp only [Act.put, List.setIfInBounds_toArray, List.set_cons_zero, List.set_cons_succ]))
      | ((refine own_store (T := 3) HO rfl rfl rfl rfl (by first | exact .here | exact .there (.here) | exact .there (.there (.here)) | exact .there (.there (.there (.here))) | exact .there (.there (.there (.there (.here)))) | exact .there (.there (.there (.there (.there (.here)))))) Try.sizeOf3 (by repeat constructor) rfl ?_); clear HO; intro wN HO; (try simp only [Act.put, List.setIfInBounds_toArray, List.set_cons_zero, List.set_cons_succ])))))
              go_roundw
              case rel => exact ⟨11, by omega, by rw [HM2.out], by first | exact cnt_up _ _ HB2.out HC2.out | exact cnt_up' _ _ HB2.out HC2.out, rfl, HO⟩
              case measure => exact meas12 10 (by omega)
            · obtain ⟨gx, hgx⟩ : ∃ gx, getM F true 1015 = gx := ⟨_, rfl⟩
              have hm : micN F 11 = micN F 10 := by rw [micN_succ F 10 (by decide) 1015 rfl]; simp [isMouse, h1]
              have hc : codN F 11 = codN F 10 := by rw [codN_succ F 10 (by decide) 1015 rfl]; simp [isCoding, h1]
              rw [hgx] at h1
              have b1 : (gx != 1) = true := bne_iff_ne.2 h1
              have b2 : (gx == 1) = false := beq_eq_false_iff_ne.2 h1
              have G1 := Lib.hid hgx
              clear hgx
              have HM2 := Lib.hid hm
              have HC2 := Lib.hid hc
              have ha := micN_12 F 10
              have hb := codN_12 F 10
              have HA := Lib.hid ha
              have HB2 := Lib.hid hb
              obtain ⟨a, hae⟩ : ∃ a, micN F 10 = a := ⟨_, rfl⟩
              obtain ⟨b, hbe⟩ : ∃ b, codN F 10 = b := ⟨_, rfl⟩
              rw [hae] at HM2 HA ⊢
              rw [hbe] at HC2 HB2 ⊢
              clear hm hc ha hb hae hbe h1
              go_wp2
              (refine region_quiet HO (by kernel_rfl) (by kernel_rfl) ?_); repeat (first
      | (go_big_quiet_skip)
      | ((with_reducible refine qg_move ?_); (refine q_move rfl rfl (by first | exact .const | exact .tmp rfl | exact .func) ?_); (try simp only [Act.put, List.setIfInBounds_toArray, List.set_cons_zero, List.set_cons_succ]))
      | ((with_reducible refine qg_assign ?_); (refine q_assign rfl rfl (by first | exact .const | exact .tmp rfl | exact .func) ?_); (try simp only [Act.put, List.setIfInBounds_toArray, List.set_cons_zero, List.set_cons_succ]))
      | ((with_reducible refine qg_pick ?_); (refine q_pick_true rfl rfl rfl (by first | exact .const | exact .tmp rfl | exact .func) ?_); (try simp only [Act.put, List.setIfInBounds_toArray, List.set_cons_zero, List.set_cons_succ]))
      | ((with_reducible refine qg_pick ?_); (refine q_pick_false rfl rfl rfl (by first | exact .const | exact .tmp rfl | exact .func) ?_); (try simp only [Act.put, List.setIfInBounds_toArray, List.set_cons_zero, List.set_cons_succ]))
      | ((with_reducible refine qg_load ?_); (refine q_load (T := 23) rfl rfl rfl (by first | exact .head _ | exact .tail _ (.head _) | exact .tail _ (.tail _ (.head _)) | exact .tail _ (.tail _ (.tail _ (.head _))) | exact .tail _ (.tail _ (.tail _ (.tail _ (.head _)))) | exact .tail _ (.tail _ (.tail _ (.tail _ (.tail _ (.head _)))))) Try.isAgg23 Try.sizeOf23 (by repeat constructor) ?_); (try simp only [Act.put, List.setIfInBounds_toArray, List.set_cons_zero, List.set_cons_succ]))
      | ((with_reducible refine qg_load ?_); (refine q_load1 (T := 3) rfl rfl rfl (by first | exact .head _ | exact .tail _ (.head _) | exact .tail _ (.tail _ (.head _)) | exact .tail _ (.tail _ (.tail _ (.head _))) | exact .tail _ (.tail _ (.tail _ (.tail _ (.head _)))) | exact .tail _ (.tail _ (.tail _ (.tail _ (.tail _ (.head _)))))) Try.isAgg3 rfl ?_); (try simp only [Act.put, List.setIfInBounds_toArray, List.set_cons_zero, List.set_cons_succ]))
      | ((with_reducible refine qg_call ?_); (refine q_call (f := 15) rfl rfl Try.call15 rfl (fun wN HON => (get_calls' F true 1015 gx G1.out wN)) ?_); (try simp only [Act.put, List.setIfInBounds_toArray, List.set_cons_zero, List.set_cons_succ]))
      | ((refine q_val rfl (fun w => by simp only [execOp]; first | (go_simp; done) | (go_simp; rfl)) ?_); (try simp only [Act.put, List.setIfInBounds_toArray, List.set_cons_zero, List.set_cons_succ])))
              refine wpQuiet_nil ?_
              intro wZ HOz; clear HO; have HO := HOz; clear HOz
              go_wp2_with (first
      | ((with_reducible refine gate ?_); (first
      | ((refine own_box HO rfl rfl rfl ?_); clear HO; intro gN wN hgN HO; (simp only [List.nil_append, List.cons_append] at HO); (try simp only [Act.put, List.setIfInBounds_toArray, List.set_cons_zero, List.set_cons_succ]))
      | ((refine own_load1 (T := 3) HO rfl rfl rfl (by first | exact .head _ | exact .tail _ (.head _) | exact .tail _ (.tail _ (.head _)) | exact .tail _ (.tail _ (.tail _ (.head _))) | exact .tail _ (.tail _ (.tail _ (.tail _ (.head _)))) | exact .tail _ (.tail _ (.tail _ (.tail _ (.tail _ (.head _)))))) Try.isAgg3 rfl ?_); (try simp only [Act.put, List.setIfInBounds_toArray, List.set_cons_zero, List.set_cons_succ]))
      | ((refine own_store (T := 3) HO rfl rfl rfl rfl (by first | exact .here | exact .there (.here) | exact .there (.there (.here)) | exact .there (.there (.there (.here))) | exact .there (.there (.there (.there (.here)))) | exact .there (.there (.there (.there (.there (.here)))))) Try.sizeOf3 (by repeat constructor) rfl ?_); clear HO; intro wN HO; (try simp only [Act.put, List.setIfInBounds_toArray, List.set_cons_zero, List.set_cons_succ])))))
              go_roundw
              case rel => exact ⟨11, by omega, by rw [HM2.out], by rw [HC2.out], rfl, HO⟩
              case measure => exact meas12 10 (by omega)
          · by_cases h1 : getM F true 2004 = 1
            · have hg : getM F true 2004 = 1 := h1
              have G1 := Lib.hid hg
              have hm : micN F 12 = micN F 11 := by rw [micN_succ F 11 (by decide) 2004 rfl]; simp [isMouse, hg]
              have hc : codN F 12 = codN F 11 := by rw [codN_succ F 11 (by decide) 2004 rfl]; simp [isCoding, hg]
              have HM2 := Lib.hid hm
              have HC2 := Lib.hid hc
              have ha := micN_12 F 11
              have hb := codN_12 F 11
              have HA := Lib.hid ha
              have HB2 := Lib.hid hb
              obtain ⟨a, hae⟩ : ∃ a, micN F 11 = a := ⟨_, rfl⟩
              obtain ⟨b, hbe⟩ : ∃ b, codN F 11 = b := ⟨_, rfl⟩
              rw [hae] at HM2 HA ⊢
              rw [hbe] at HC2 HB2 ⊢
              clear hm hc ha hb hae hbe h1 hg
              go_wp2
              (refine region_quiet HO (by kernel_rfl) (by kernel_rfl) ?_); repeat (first
      | (go_big_quiet_skip)
      | ((with_reducible refine qg_move ?_); (refine q_move rfl rfl (by first | exact .const | exact .tmp rfl | exact .func) ?_); (try simp only [Act.put, List.setIfInBounds_toArray, List.set_cons_zero, List.set_cons_succ]))
      | ((with_reducible refine qg_assign ?_); (refine q_assign rfl rfl (by first | exact .const | exact .tmp rfl | exact .func) ?_); (try simp only [Act.put, List.setIfInBounds_toArray, List.set_cons_zero, List.set_cons_succ]))
      | ((with_reducible refine qg_pick ?_); (refine q_pick_true rfl rfl rfl (by first | exact .const | exact .tmp rfl | exact .func) ?_); (try simp only [Act.put, List.setIfInBounds_toArray, List.set_cons_zero, List.set_cons_succ]))
      | ((with_reducible refine qg_pick ?_); (refine q_pick_false rfl rfl rfl (by first | exact .const | exact .tmp rfl | exact .func) ?_); (try simp only [Act.put, List.setIfInBounds_toArray, List.set_cons_zero, List.set_cons_succ]))
      | ((with_reducible refine qg_load ?_); (refine q_load (T := 23) rfl rfl rfl (by first | exact .head _ | exact .tail _ (.head _) | exact .tail _ (.tail _ (.head _)) | exact .tail _ (.tail _ (.tail _ (.head _))) | exact .tail _ (.tail _ (.tail _ (.tail _ (.head _)))) | exact .tail _ (.tail _ (.tail _ (.tail _ (.tail _ (.head _)))))) Try.isAgg23 Try.sizeOf23 (by repeat constructor) ?_); (try simp only [Act.put, List.setIfInBounds_toArray, List.set_cons_zero, List.set_cons_succ]))
      | ((with_reducible refine qg_load ?_); (refine q_load1 (T := 3) rfl rfl rfl (by first | exact .head _ | exact .tail _ (.head _) | exact .tail _ (.tail _ (.head _)) | exact .tail _ (.tail _ (.tail _ (.head _))) | exact .tail _ (.tail _ (.tail _ (.tail _ (.head _)))) | exact .tail _ (.tail _ (.tail _ (.tail _ (.tail _ (.head _)))))) Try.isAgg3 rfl ?_); (try simp only [Act.put, List.setIfInBounds_toArray, List.set_cons_zero, List.set_cons_succ]))
      | ((with_reducible refine qg_call ?_); (refine q_call (f := 15) rfl rfl Try.call15 rfl (fun wN HON => (get_calls' F true 2004 1 G1.out wN)) ?_); (try simp only [Act.put, List.setIfInBounds_toArray, List.set_cons_zero, List.set_cons_succ]))
      | ((refine q_val rfl (fun w => by simp only [execOp]; first | (go_simp; done) | (go_simp; rfl)) ?_); (try simp only [Act.put, List.setIfInBounds_toArray, List.set_cons_zero, List.set_cons_succ])))
              refine wpQuiet_nil ?_
              intro wZ HOz; clear HO; have HO := HOz; clear HOz
              go_wp2_with (first
      | ((with_reducible refine gate ?_); (first
      | ((refine own_box HO rfl rfl rfl ?_); clear HO; intro gN wN hgN HO; (simp only [List.nil_append, List.cons_append] at HO); (try simp only [Act.put, List.setIfInBounds_toArray, List.set_cons_zero, List.set_cons_succ]))
      | ((refine own_load1 (T := 3) HO rfl rfl rfl (by first | exact .head _ | exact .tail _ (.head _) | exact .tail _ (.tail _ (.head _)) | exact .tail _ (.tail _ (.tail _ (.head _))) | exact .tail _ (.tail _ (.tail _ (.tail _ (.head _)))) | exact .tail _ (.tail _ (.tail _ (.tail _ (.tail _ (.head _)))))) Try.isAgg3 rfl ?_); (try simp only [Act.put, List.setIfInBounds_toArray, List.set_cons_zero, List.set_cons_succ]))
      | ((refine own_store (T := 3) HO rfl rfl rfl rfl (by first | exact .here | exact .there (.here) | exact .there (.there (.here)) | exact .there (.there (.there (.here))) | exact .there (.there (.there (.there (.here)))) | exact .there (.there (.there (.there (.there (.here)))))) Try.sizeOf3 (by repeat constructor) rfl ?_); clear HO; intro wN HO; (try simp only [Act.put, List.setIfInBounds_toArray, List.set_cons_zero, List.set_cons_succ])))))
              go_roundw
              case rel => exact ⟨12, by omega, by rw [HM2.out], by rw [HC2.out], rfl, HO⟩
              case measure => exact meas12 11 (by omega)
            · obtain ⟨gx, hgx⟩ : ∃ gx, getM F true 2004 = gx := ⟨_, rfl⟩
              have hm : micN F 12 = micN F 11 := by rw [micN_succ F 11 (by decide) 2004 rfl]; simp [isMouse, h1]
              have hc : codN F 12 = codN F 11 := by rw [codN_succ F 11 (by decide) 2004 rfl]; simp [isCoding, h1]
              rw [hgx] at h1
              have b1 : (gx != 1) = true := bne_iff_ne.2 h1
              have b2 : (gx == 1) = false := beq_eq_false_iff_ne.2 h1
              have G1 := Lib.hid hgx
              clear hgx
              have HM2 := Lib.hid hm
              have HC2 := Lib.hid hc
              have ha := micN_12 F 11
              have hb := codN_12 F 11
              have HA := Lib.hid ha
              have HB2 := Lib.hid hb
              obtain ⟨a, hae⟩ : ∃ a, micN F 11 = a := ⟨_, rfl⟩
              obtain ⟨b, hbe⟩ : ∃ b, codN F 11 = b := ⟨_, rfl⟩
              rw [hae] at HM2 HA ⊢
              rw [hbe] at HC2 HB2 ⊢
              clear hm hc ha hb hae hbe h1
              go_wp2
              (refine region_quiet HO (by kernel_rfl) (by kernel_rfl) ?_); repeat (first
      | (go_big_quiet_skip)
      | ((with_reducible refine qg_move ?_); (refine q_move rfl rfl (by first | exact .const | exact .tmp rfl | exact .func) ?_); (try simp only [Act.put, List.setIfInBounds_toArray, List.set_cons_zero, List.set_cons_succ]))
      | ((with_reducible refine qg_assign ?_); (refine q_assign rfl rfl (by first | exact .const | exact .tmp rfl | exact .func) ?_); (try simp only [Act.put, List.setIfInBounds_toArray, List.set_cons_zero, List.set_cons_succ]))
      | ((with_reducible refine qg_pick ?_); (refine q_pick_true rfl rfl rfl (by first | exact .const | exact .tmp rfl | exact .func) ?_); (try simp only [Act.put, List.setIfInBounds_toArray, List.set_cons_zero, List.set_cons_succ]))
      | ((with_reducible refine qg_pick ?_); (refine q_pick_false rfl rfl rfl (by first | exact .const | exact .tmp rfl | exact .func) ?_); (try simp only [Act.put, List.setIfInBounds_toArray, List.set_cons_zero, List.set_cons_succ]))
      | ((with_reducible refine qg_load ?_); (refine q_load (T := 23) rfl rfl rfl (by first | exact .head _ | exact .tail _ (.head _) | exact .tail _ (.tail _ (.head _)) | exact .tail _ (.tail _ (.tail _ (.head _))) | exact .tail _ (.tail _ (.tail _ (.tail _ (.head _)))) | exact .tail _ (.tail _ (.tail _ (.tail _ (.tail _ (.head _)))))) Try.isAgg23 Try.sizeOf23 (by repeat constructor) ?_); (try simp only [Act.put, List.setIfInBounds_toArray, List.set_cons_zero, List.set_cons_succ]))
      | ((with_reducible refine qg_load ?_); (refine q_load1 (T := 3) rfl rfl rfl (by first | exact .head _ | exact .tail _ (.head _) | exact .tail _ (.tail _ (.head _)) | exact .tail _ (.tail _ (.tail _ (.head _))) | exact .tail _ (.tail _ (.tail _ (.tail _ (.head _)))) | exact .tail _ (.tail _ (.tail _ (.tail _ (.tail _ (.head _)))))) Try.isAgg3 rfl ?_); (try simp only [Act.put, List.setIfInBounds_toArray, List.set_cons_zero, List.set_cons_succ]))
      | ((with_reducible refine qg_call ?_); (refine q_call (f := 15) rfl rfl Try.call15 rfl (fun wN HON => (get_calls' F true 2004 gx G1.out wN)) ?_); (try simp only [Act.put, List.setIfInBounds_toArray, List.set_cons_zero, List.set_cons_succ]))
      | ((refine q_val rfl (fun w => by simp only [execOp]; first | (go_simp; done) | (go_simp; rfl)) ?_); (try simp only [Act.put, List.setIfInBounds_toArray, List.set_cons_zero, List.set_cons_succ])))
              refine wpQuiet_nil ?_
              intro wZ HOz; clear HO; have HO := HOz; clear HOz
              go_wp2_with (first
      | ((with_reducible refine gate ?_); (first
      | ((refine own_box HO rfl rfl rfl ?_); clear HO; intro gN wN hgN HO; (simp only [List.nil_append, List.cons_append] at HO); (try simp only [Act.put, List.setIfInBounds_toArray, List.set_cons_zero, List.set_cons_succ]))
      | ((refine own_load1 (T := 3) HO rfl rfl rfl (by first | exact .head _ | exact .tail _ (.head _) | exact .tail _ (.tail _ (.head _)) | exact .tail _ (.tail _ (.tail _ (.head _))) | exact .tail _ (.tail _ (.tail _ (.tail _ (.head _)))) | exact .tail _ (.tail _ (.tail _ (.tail _ (.tail _ (.head _)))))) Try.isAgg3 rfl ?_); (try simp only [Act.put, List.setIfInBounds_toArray, List.set_cons_zero, List.set_cons_succ]))
      | ((refine own_store (T := 3) HO rfl rfl rfl rfl (by first | exact .here | exact .there (.here) | exact .there (.there (.here)) | exact .there (.there (.there (.here))) | exact .there (.there (.there (.there (.here)))) | exact .there (.there (.there (.there (.there (.here)))))) Try.sizeOf3 (by repeat constructor) rfl ?_); clear HO; intro wN HO; (try simp only [Act.put, List.setIfInBounds_toArray, List.set_cons_zero, List.set_cons_succ])))))
              go_roundw
              case rel => exact ⟨12, by omega, by rw [HM2.out], by rw [HC2.out], rfl, HO⟩
              case measure => exact meas12 11 (by omega)
        · obtain rfl : k = 12 := by omega
          have h1 : decide ((micN F 12 : Int) ≤ 1) = true := decide_eq_true (by have := micN_le F HMAY.out; omega)
          have h2 : decide ((codN F 12 : Int) ≤ 1) = true := decide_eq_true (by have := codN_le F HMAY.out; omega)
          have h3 : (micN F 12 : Int) ≤ 1 := by have := micN_le F HMAY.out; omega
          have h4 : (codN F 12 : Int) ≤ 1 := by have := codN_le F HMAY.out; omega
          obtain ⟨a, hae⟩ : ∃ a, micN F 12 = a := ⟨_, rfl⟩
          obtain ⟨b, hbe⟩ : ∃ b, codN F 12 = b := ⟨_, rfl⟩
          rw [hae] at h1 h3 ⊢
          rw [hbe] at h2 h4 ⊢
          clear hae hbe hlt hk
          go_wp2_with (first
                | (go_at_call 18; refine (may_modes' F true HMAY.out _).mono ?_; rintro eN wN ⟨rfl, hbN⟩; have HON := HO.call hbN; clear HO hbN; have HO := HON; clear HON)
                | ((with_reducible refine gate ?_); (first
                | ((refine own_box HO rfl rfl rfl ?_); clear HO; intro gN wN hgN HO; (simp only [List.nil_append, List.cons_append] at HO); (try simp only [Act.put, List.setIfInBounds_toArray, List.set_cons_zero, List.set_cons_succ]))
                | ((refine own_load (T := 23) HO rfl rfl rfl (by first | exact .head _ | exact .tail _ (.head _) | exact .tail _ (.tail _ (.head _)) | exact .tail _ (.tail _ (.tail _ (.head _))) | exact .tail _ (.tail _ (.tail _ (.tail _ (.head _)))) | exact .tail _ (.tail _ (.tail _ (.tail _ (.tail _ (.head _)))))) Try.isAgg23 Try.sizeOf23 (by repeat constructor) ?_); (try simp only [Act.put, List.setIfInBounds_toArray, List.set_cons_zero, List.set_cons_succ]))
                | ((refine own_store (T := 23) HO rfl rfl rfl rfl (by first | exact .here | exact .there (.here) | exact .there (.there (.here)) | exact .there (.there (.there (.here))) | exact .there (.there (.there (.there (.here)))) | exact .there (.there (.there (.there (.there (.here)))))) Try.sizeOf23 (by repeat constructor) rfl ?_); clear HO; intro wN HO; (try simp only [Act.put, List.setIfInBounds_toArray, List.set_cons_zero, List.set_cons_succ])))))
          go_ret
          exact ⟨rfl, HO.below⟩
theorem modesOne_calls (A : Option Addr) (c : Nat) (l : List Int) (B : Option Addr) (nB cB : Nat) (f : Nat → Bool) (w : World) (hC : (Kd.int .i64).C w A l.length l) (hB : ∀ i, i < nB → ∃ ad, B = some ad ∧ w.cell? (ad.add i) = some (.bool (f i))) (hnB : nB ≤ 9223372036854775807) :
    Calls Try.prog 4 #[.slice A l.length c, .slice B nB cB] w fun e w' => e = .returned (.bool true) ∧ Below w.heap.size w w' := by
  by_cases hl : 40 < l.length
  · exact modesOne_long A c l B nB cB w hl
  · exact modesOne_short A c l B nB cB w f hl hC hB hnB
end Go.Proofs.Ytllloedhlcdbjaa
end
