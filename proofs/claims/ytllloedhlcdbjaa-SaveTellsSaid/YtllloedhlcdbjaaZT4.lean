/- T: texts run together by shake.py: AwA KitN SvC SvE SvD AwS FrS KitO KitI SvN SvQ SvR WTab WFoot WKept WShare WN WRepsOne WInv WMore Gx0 Gclavierref06a Gclavierref07a SvT SvU. -/
import Derived.ArgAppend
import Derived.Below
import Derived.BigQuiet
import Derived.ChangeKeysEq
import Derived.ChangeOld
import Derived.ChangeSlices
import Derived.Deep.AppendLies
import Derived.Deep.CutBlock
import Derived.Deep.DeepCutAuto
import Derived.Deep.Draws
import Derived.Deep.LoopGhost
import Derived.Deep.OwnRows
import Derived.Deep.Quiet
import Derived.Deep.QuietTactic
import Derived.Deep.RegionHeld3
import Derived.Ground.GgzProg
import Derived.Ground.SlgmProg
import Derived.KernelRfl
import Derived.Laws.AppendOwn
import Derived.Laws.AppendOwnNone
import Derived.Laws.BitsLemmas
import Derived.Laws.BytesArg
import Derived.Laws.CopyRow
import Derived.Laws.IdiomCopy
import Derived.Laws.IdiomStrings
import Derived.Laws.MakeOwn
import Derived.Laws.OwnMore
import Derived.Laws.Rows
import Derived.Laws.Slices
import Derived.Laws.StructEq
import Derived.Lib.AppendStr
import Derived.Lib.ConvBytes
import Derived.Lib.Hide
import Derived.Lib.SlKeysI
import Derived.LoopIn
import Derived.LoopNIn
import Derived.MapKept
import Derived.Maps.AppendAt
import Derived.Maps.Own
import Derived.OpenShut
import Derived.Orders
import Derived.OrdersHeld
import Derived.OrdersIn
import Derived.Outline
import Derived.OwnWalk
import Derived.OwnWalkIn
import Derived.ProofKit
import Derived.RangeFuncBound
import Derived.RangeFuncBox
import Derived.RangeFuncCalls
import Derived.RangeFuncLeaves
import Derived.RangeFuncNested
import Derived.RangeFuncWrites
import Derived.RowKit
import Derived.RowKit3
import Derived.Shelf.Abstract
import Derived.Shelf.RegionOpen
import Derived.Shelf.SlIterI.Nil
import Derived.Shelf.Slices.Turned
import Derived.Shelf.SortM.Plain
import Derived.Shelf.SortM.SortNone
import Derived.Shelf.Strconv.Itoa0
import Derived.ShutString
import Derived.SizedLaws
import Derived.Still
import Derived.Tactics
import Derived.TacticsIn
import Derived.TacticsInMore
import Derived.Test.YtllloedhlcdbjaaProg
import Derived.Test.YtllloedhlcdbjaaRows
import Derived.WalkKit
import Derived.WalkLawsBesides
import Derived.WalkSpells
import Derived.WideLaws
import Derived.Test.YtllloedhlcdbjaaZT1
import Derived.Test.YtllloedhlcdbjaaZT2
import Derived.Test.YtllloedhlcdbjaaZT3
section
namespace Go.Proofs.Ytllloedhlcdbjaa
set_option linter.unusedVariables false
set_option linter.unusedSimpArgs false
open Go.RowKit Kit
attribute [local irreducible] wpList Calls wpQuiet
theorem set_calls' (m : Md) (p : Bool) (n : Int) (on : Bool) (r : Md) (ok : Bool) (h : setM m p n on = (r, ok)) (w : World) :
    Calls Try.prog 13 #[m.v, .bool p, .int .i64 n, .bool on] w fun e w' => e = .returned (.tuple #[r.v, .bool ok]) ∧ Below w.heap.size w w' := by
  have := set_calls m p n on w; rw [h] at this; exact this
theorem rset_calls' (m : Md) (p : Bool) (n : Int) (on : Bool) (r : Md) (ok : Bool) (h : setM m p n on = (r, ok)) (w : World) :
    Calls Try.prog 34 #[m.v, .bool p, .int .i64 n, .bool on] w fun e w' => e = .returned (.tuple #[r.v, .bool ok]) ∧ Below w.heap.size w w' := by
  have := rset_calls m p n on w; rw [h] at this; exact this
theorem get_calls' (m : Md) (p : Bool) (n : Int) (r : Int) (h : getM m p n = r) (w : World) :
    Calls Try.prog 15 #[m.v, .bool p, .int .i64 n] w fun e w' => e = .returned (.int .i64 r) ∧ Below w.heap.size w w' := by
  have := get_calls m p n w; rw [h] at this; exact this
end Go.Proofs.Ytllloedhlcdbjaa
end
section
namespace Go.Proofs.Ytllloedhlcdbjaa.Kit
set_option linter.unusedVariables false
set_option linter.unusedSimpArgs false
open Go Go.RowKit Go.Proofs.YtllloedhlcdbjaaW.PrintWords
section
variable {P : Program} {ops : Array Oper} {Q : Exit → Act → World → Prop} {a : Act} {w W0 : World} {rest : List Oper} {o : Oper} {bs bs' : Res} {g off n : Nat} {cs cs' vs : List Value} {T E : TypeId} {v : Value} {X : World → Prop}
def XB (X : World → Prop) : Prop := ∀ w w', X w → Below w.heap.size w w' → X w'
def XS (E : TypeId) (X : World → Prop) : Prop := ∀ w g cs cs', X w → w.heap[g]? = some (.cells cs E (0, 0)) → X (w.setRow g cs')
theorem XB.rows {α : Type} (d : Kd α) (e base : Nat) (ok : Nat → Prop) (v : Value) (xs : List α) : XB (fun w => Kd.S d e w base ok v xs) := fun w w' h hb => Kd.S_below h hb
theorem XS.rows {α : Type} (d : Kd α) (e base : Nat) (ok : Nat → Prop) (v : Value) (xs : List α) {T : TypeId} (ht : ∀ q, q ∈ e :: d.E → q ≠ T) : XS T (fun w => Kd.S d e w base ok v xs) := fun w g cs cs' h hg => by
  refine Kd.S_mono (Kd.S_step (Kd.S_bound h) (fun k hk hlt => ?_)) (fun k hk => hk.1)
  obtain ⟨_, _, _, q, hq, cells, hc⟩ := hk
  refine setRow_other w g k _ (fun e => ?_)
  subst e
  rw [hc] at hg
  cases hg
  exact absurd rfl (ht _ hq)
theorem own_storeX (HO : Mine W0 w bs) (HX : X w) {x y : Operand} (ho : o.op = .store T x y) (hgd : Region.wanted o (yielded ops a.tmps) = true) (hx : a.eval x = .pointer (some ⟨g, off, none⟩)) (hv : (a.eval y).cells = vs.toArray)
    (hu : Upd bs g (IsCells cs E) (IsCells cs' E) bs') (hk : XS E X) (hsz : ∀ w, (sizeOf T).run P w = .ok vs.length w) (hp : PutAt cs off vs cs') (h1 : vs.all (·.oneCell') = true)
    (h : ∀ w', Mine W0 w' bs' → X w' → wpList P ops Q rest (a.put o.dst undef) w') : wpList P ops Q (o :: rest) a w :=
  wpList_want hgd fun _ hK => by
    unfold Oper.wp execOp
    simp only [ho, hx, Instr.storeAt, Instr.sureAddr, Sem.run_bind, Sem.run_pure, Result.andThen_ok, run_store_own (HO.at hu.mem) hv hsz hp h1]
    exact hK _ _ (h _ (HO.setRow hu) (hk _ _ _ _ HX (HO.at hu.mem)))
end
end Go.Proofs.Ytllloedhlcdbjaa.Kit
end
section
namespace Go.Proofs.Ytllloedhlcdbjaa
set_option linter.unusedVariables false
set_option linter.unusedSimpArgs false
open Go.RowKit Kit Go.Shelf Go.Proofs.YtllloedhlcdbjaaW.PrintWords
attribute [local go_sem] Oper.semAt_some
theorem wideRegion {P : Program} {Q : Exit → Act → World → Prop} {a : Act} {w : World} {n id : Nat} {l : List Oper} (h : wpList P l.toArray Q l a w) : (Code.region id l.toArray false).wpIn Fence.wide n P Q a w := wpIn_wide.2 (wp_region_lit h)
abbrev u8s (l : List Int) : List Value := l.map (Value.int .u8)
def stepS (m : Md) (s : List Int) (p : Fin 12 × Int) : List Int := s.set p.1.val (if getM m true p.2 = 1 then 1 else 2)
def saveL (m : Md) (s : List Int) (nums : List Int) : List Int := (pairsL nums).foldl (stepS m) s
theorem stepS_len (m : Md) (s : List Int) (p : Fin 12 × Int) : (stepS m s p).length = s.length := by simp [stepS]
theorem foldS_len (m : Md) : ∀ (l : List (Fin 12 × Int)) (s : List Int), (l.foldl (stepS m) s).length = s.length
  | [], _ => rfl
  | p :: l, s => by rw [List.foldl_cons, foldS_len m l, stepS_len]
theorem Slc.all {α : Type} : ∀ (l : List α), Slc l 0 l.length l
  | [] => .nil
  | _ :: l => .take (Slc.all l)
theorem PutAt.all {α : Type} : ∀ (l vs : List α), vs.length = l.length → PutAt l 0 vs vs
  | [], [], _ => .nil
  | _ :: l, _ :: vs, h => .put (PutAt.all l vs (by simpa using h))
theorem PutAt.one {α : Type} (v : α) : ∀ (l : List α) (k : Nat), k < l.length → PutAt l k [v] (l.set k v)
  | _ :: _, 0, _ => .put .nil
  | _ :: l, k + 1, h => .skip (PutAt.one v l k (by simpa using h))
theorem Keep.setRow {g : Nat} {A B : World} (h : Keep g A B) (cs : Array Value) : Keep g A (B.setRow g cs) :=
  ⟨by rw [size_setRow]; exact h.size, fun k hk hne => (setRow_other B g k _ hne).trans (h.same k hk hne)⟩
section
variable {P : Program} {ops : Array Oper} {Q : Exit → Act → World → Prop} {a : Act} {w W W0 : World} {rest : List Oper} {o : Oper} {bs bs' : Res} {g off n : Nat} {cs cs' vs : List Value} {T E : TypeId} {v : Value}
theorem own_put1 (HO : Mine W0 w bs) (HK : Keep g W w) {x y : Operand} (ho : o.op = .store T x y) (hgd : Region.wanted o (yielded ops a.tmps) = true) (hx : a.eval x = .pointer (some ⟨g, off, none⟩)) (hy : EvalTo a y v) (hc : v.cells = [v].toArray)
    (hu : Upd bs g (IsCells cs E) (IsCells (cs.set off v) E) bs') (hoff : off < cs.length) (hsz : ∀ w, (sizeOf T).run P w = .ok 1 w) (h1 : v.oneCell' = true)
    (h : ∀ w', Mine W0 w' bs' → Keep g W w' → wpList P ops Q rest (a.put o.dst undef) w') : wpList P ops Q (o :: rest) a w :=
  wpList_want hgd fun _ hK => by
    have hr := run_store_own (P := P) (T := T) (v := v) (HO.at hu.mem) (vs := [v]) hc hsz (PutAt.one v cs off hoff) (by simp [h1])
    unfold Oper.wp execOp
    simp only [ho, hx, hy.eq, Instr.storeAt, Instr.sureAddr, Sem.run_bind, Sem.run_pure, Result.andThen_ok, hr]
    exact hK _ _ (h _ (HO.setRow hu) (HK.setRow _))
end
theorem rd_int' (l : List Int) (i : Nat) (h : i < l.length) : rd l (i : Int) = l.getD i 0 := by
  simp [rd, List.getD, h]
theorem nums_of {A : Option Addr} {nums : List Int} {w wN : World} {g : Nat} (hC : (Kd.int .i64).C w A nums.length nums) (hb : Below w.heap.size w wN) (hge : w.heap.size ≤ g) (hlt : g < wN.heap.size) : Nums wN.heap.size g A nums wN := fun j hj => by
  obtain ⟨ad, e, hcell⟩ := Kd.at_int hC (j : Int) (by omega) (by omega)
  rw [Int.toNat_natCast] at hcell
  have hbl := World.block_lt_of_cell? w _ hcell
  rw [add_block] at hbl
  have hsz := hb.size
  refine ⟨ad, e, (hb.cell (by rw [add_block]; exact hbl)).trans (hcell.trans ?_), by omega, by omega⟩
  rw [rd_int' nums j hj]
attribute [local irreducible] wpList Calls wpQuiet
set_option maxRecDepth 100000 in
set_option maxHeartbeats 4000000 in
theorem save_calls (s : List Int) (hs : s.length = 12) (m : Md) (A : Option Addr) (c : Nat) (nums : List Int) (hn : nums.length ≤ 1000000) (w : World) (hC : (Kd.int .i64).C w A nums.length nums) :
    Calls Try.prog 20 #[.agg (u8s s).toArray, m.v, .slice A nums.length c] w fun e w' => e = .returned (.agg (u8s (saveL m s nums)).toArray) ∧ Below w.heap.size w w' := by
  refine (callsIn_wide (n := 5)).1 ?_
  have HO := Mine.start w
  have HS := Lib.hid hs
  have HC := Lib.hid hC
  have HN := Lib.hid hn
  clear hs hC hn
  refine callsIn_of_wp_marks Try.func20 rfl trivial ?_ rfl
  simp only [Try.ntmps20, List.size_toArray, List.length_cons, List.length_nil, Nat.reduceAdd, Nat.reduceSub, Array.replicate_succ, Array.replicate_zero, List.push_toArray, List.append_toArray, List.nil_append, List.cons_append]
  refine wpIn_seq ?_
  refine wideRegion ?_
  go_wp2_with (first
      | ((with_reducible refine gate ?_); (first
      | ((with_reducible refine gateAt (N := 4) rfl ?_); refine own_box HO rfl rfl (cs := [.bool m.cursor, .bool m.keypad, .bool m.back, .bool m.focus, .bool m.paste, .bool m.lock, .bool m.line, .int .i64 m.mouse, .int .i64 m.coding, .int .i64 m.other]) rfl ?_; clear HO; intro gM wN hgN HO; (simp only [List.nil_append, List.cons_append] at HO); (try simp only [Act.put, List.setIfInBounds_toArray, List.set_cons_zero, List.set_cons_succ]))
      | ((with_reducible refine gateAt (N := 3) rfl ?_); refine own_box HO rfl rfl (cs := u8s s) rfl ?_; clear HO; intro gS wN hgN HO; (simp only [List.nil_append, List.cons_append] at HO); (try simp only [Act.put, List.setIfInBounds_toArray, List.set_cons_zero, List.set_cons_succ]))
      | ((refine own_box HO rfl rfl rfl ?_); clear HO; intro gR wN hgR HO; (simp only [List.nil_append, List.cons_append] at HO); (try simp only [Act.put, List.setIfInBounds_toArray, List.set_cons_zero, List.set_cons_succ]))
      | ((refine own_alloc (T := 39) HO rfl rfl Try.zeroValue39 rfl ?_); clear HO; intro gR wN hgR HO; (simp only [List.nil_append, List.cons_append] at HO); (try simp only [Act.put, List.setIfInBounds_toArray, List.set_cons_zero, List.set_cons_succ]))
      | ((refine own_load (T := 23) HO rfl rfl rfl (by first | exact .head _ | exact .tail _ (.head _) | exact .tail _ (.tail _ (.head _)) | exact .tail _ (.tail _ (.tail _ (.head _))) | exact .tail _ (.tail _ (.tail _ (.tail _ (.head _)))) | exact .tail _ (.tail _ (.tail _ (.tail _ (.tail _ (.head _)))))) Try.isAgg23 Try.sizeOf23 (by repeat constructor) ?_); (try simp only [Act.put, List.setIfInBounds_toArray, List.set_cons_zero, List.set_cons_succ]))
      | ((refine own_store (T := 23) HO rfl rfl rfl rfl (by first | exact .here | exact .there (.here) | exact .there (.there (.here)) | exact .there (.there (.there (.here))) | exact .there (.there (.there (.there (.here)))) | exact .there (.there (.there (.there (.there (.here)))))) Try.sizeOf23 (by repeat constructor) rfl ?_); clear HO; intro wN HO; (try simp only [Act.put, List.setIfInBounds_toArray, List.set_cons_zero, List.set_cons_succ])))))
  refine wpIn_seq ?_
  refine wpIn_seq ?_
  refine wideRegion ?_
  go_wp2_with (go_at_call 31; refine (places_calls A _ c _).mono ?_; rintro eN wN ⟨v, rfl, ⟨g1, g3, gL, cap, rest, rfl, hg1, hg3, hgL, hc1, hc3, hcL, hcap⟩, hbN⟩; have hlt : gS < _ := HO.lt (.head _); have HON := HO.call hbN; have HX := Lib.hid (And.intro (Nat.ne_of_gt (Nat.lt_of_lt_of_le hlt hg3)) (And.intro (Nat.ne_of_gt (Nat.lt_of_lt_of_le hlt hgL)) (And.intro hc1 (And.intro hc3 hcL)))); clear HO hbN hlt hg1 hg3 hgL hc1 hc3 hcL hcap; have HO := HON; clear HON)
  refine wpIn_block ?_
  obtain ⟨hX3, hXL, hc1, hc3, hcL⟩ := HX.out
  have hge : w.heap.size ≤ gS := (HO.held _ (.head _)).1
  have hlt : gS < wN.heap.size := HO.lt (.head _)
  refine wpIn_rangeFunc_ownG (F := Fence.wide) rfl (by omega) (gf := 41) (lb := #[.pointer (some ⟨g1, 0, none⟩), .pointer (some ⟨g3, 0, none⟩)]) rfl trivial (enters_of Try.func41 (by kernel_rfl) rfl)
    (places_stops 4 (by omega) wN.heap.size gS g1 g3 gL cap c rest A nums HN.out wN hc1 hc3 hcL ⟨(Array.getElem?_eq_some_iff.1 hc3).1, hX3⟩ ⟨(Array.getElem?_eq_some_iff.1 hcL).1, hXL⟩ (fun j hj => by
      obtain ⟨ad, e, hcell⟩ := Kd.at_int HC.out (j : Int) (by omega) (by omega)
      rw [Int.toNat_natCast] at hcell
      have hb := World.block_lt_of_cell? w _ hcell
      rw [add_block] at hb
      have hsz := HO.below.size
      refine ⟨ad, e, (HO.below.cell (by rw [add_block]; exact hb)).trans (hcell.trans ?_), by omega, by omega⟩
      rw [rd_int' nums j hj])) (fun h k => h.trans k) (fun W l o o' hl _ _ _ k o2 hk hne h => (World.putObj_heap_other (show k ≠ l by omega)).trans h) (Below.refl _ _) (fun _ => rfl)
    (fun pre W => Mine w W [(gS, IsCells (u8s (pre.foldl (stepS m) s)) 39), (gM, IsCells [.bool m.cursor, .bool m.keypad, .bool m.back, .bool m.focus, .bool m.paste, .bool m.lock, .bool m.line, .int .i64 m.mouse, .int .i64 m.coding, .int .i64 m.other] 23), (gR, IsCells [.int .u8 0, .int .u8 0, .int .u8 0, .int .u8 0, .int .u8 0, .int .u8 0, .int .u8 0, .int .u8 0, .int .u8 0, .int .u8 0, .int .u8 0, .int .u8 0] 39)])
    (fun _ _ _ => False)
    (mine_own _ (fun s p hp o ho => by
      simp only [List.mem_cons, List.not_mem_nil, or_false] at hp
      rcases hp with rfl | rfl | rfl <;> exact cells_isCells ho) (by have := HO.below.size; omega))
    (fun _ _ _ _ _ hs _ _ => hs) HO
    (fun x => { tmps := #[.agg (u8s s).toArray, m.v, .slice A nums.length c, .pointer (some ⟨gS, 0, none⟩), .pointer (some ⟨gM, 0, none⟩), undef, .pointer (some ⟨gR, 0, none⟩), .int .i64 (x.1.val : Int), .int .i64 x.2, .slice A nums.length c, .func (.func 41) #[] #[.pointer (some ⟨g1, 0, none⟩), .pointer (some ⟨g3, 0, none⟩)], .int .i64 (x.1.val : Int), .int .i64 x.2, undef, undef, undef, undef, undef, undef, undef, undef, undef], defers := [] }) ?assign ?body ?done ?stop
  case assign =>
    intro l x W K hK
    gi_wp2
    exact hK
  case body =>
    rintro l pre x W hI _
    clear HO hc1 hc3 hcL
    have HO := hI
    have HK := Keep.refl gS W
    clear hI
    obtain ⟨⟨j, hj⟩, y⟩ := x
    obtain ⟨F, hF⟩ : ∃ F, List.foldl (stepS m) s pre = F := ⟨_, rfl⟩
    have hFl : F.length = 12 := by rw [← hF, foldS_len, HS.out]
    have hl1 : j < (u8s F).length := by simp [hFl, hj]
    have hl2 : ∀ v, j < ((u8s F).set j v).length := fun v => by simp [hFl, hj]
    have HL1 := Lib.hid hl1
    have HL2 := Lib.hid hl2
    have hst : ∀ g : Int, getM m true y = g → u8s (List.foldl (stepS m) s (pre ++ [(⟨j, hj⟩, y)])) = (u8s F).set j (.int .u8 (if g = 1 then 1 else 2)) := fun g e => by
      rw [List.foldl_append, hF]
      simp [stepS, e, List.map_set]
    have HST := Lib.hid hst
    rw [hF] at HO
    clear hF hFl hl1 hl2 hst
    have hj0 : (j : Int) < 12 := by omega
    refine wpIn_block ?_
    refine wpIn_seq ?_
    refine inRegion (fun ⟨_, _, h⟩ => h) rfl ?_
    go_wp2_with ((with_reducible refine gate ?_); refine own_put1 HO HK rfl rfl rfl (by first | exact .const | exact .tmp rfl) rfl .here (by first | exact HL1.out | exact HL2.out _) Try.sizeOf5 rfl ?_; clear HO HK; intro wN HO HK; (try simp only [Act.put, List.setIfInBounds_toArray, List.set_cons_zero, List.set_cons_succ]))
    refine wpIn_seq ?_
    refine inRegion (fun ⟨_, _, h⟩ => h) rfl ?_
    obtain ⟨g, hg⟩ : ∃ g, getM m true y = g := ⟨_, rfl⟩
    have hst := HST.out g hg
    have HG := Lib.hid hg
    clear hg HST
    by_cases h1 : g = 1
    · have H3 := Lib.hid (hst.trans (by rw [if_pos h1]))
      clear hst
      subst h1
      go_wp2_with (first
      | (go_at_call 15; refine (get_calls' m true y 1 HG.out _).mono ?_; rintro eN wN ⟨rfl, hbN⟩; have HON := HO.call hbN; have HKN := HK.below hbN; clear HO HK hbN; have HO := HON; have HK := HKN; clear HON HKN)
      | ((with_reducible refine gate ?_); (first
      | ((refine own_box HO rfl rfl rfl ?_); clear HO; intro gN wN hgN HO; (simp only [List.nil_append, List.cons_append] at HO); (try simp only [Act.put, List.setIfInBounds_toArray, List.set_cons_zero, List.set_cons_succ]))
      | ((refine own_load (T := 23) HO rfl rfl rfl (by first | exact .head _ | exact .tail _ (.head _) | exact .tail _ (.tail _ (.head _)) | exact .tail _ (.tail _ (.tail _ (.head _))) | exact .tail _ (.tail _ (.tail _ (.tail _ (.head _)))) | exact .tail _ (.tail _ (.tail _ (.tail _ (.tail _ (.head _)))))) Try.isAgg23 Try.sizeOf23 (by repeat constructor) ?_); (try simp only [Act.put, List.setIfInBounds_toArray, List.set_cons_zero, List.set_cons_succ]))
      | ((refine own_store (T := 23) HO rfl rfl rfl rfl (by first | exact .here | exact .there (.here) | exact .there (.there (.here)) | exact .there (.there (.there (.here))) | exact .there (.there (.there (.there (.here)))) | exact .there (.there (.there (.there (.there (.here)))))) Try.sizeOf23 (by repeat constructor) rfl ?_); clear HO; intro wN HO; (try simp only [Act.put, List.setIfInBounds_toArray, List.set_cons_zero, List.set_cons_succ])))))
      refine wpIn_cond_true rfl ?_
      refine inRegion (fun ⟨_, _, h⟩ => h) rfl ?_
      go_wp2_with ((with_reducible refine gate ?_); refine own_put1 HO HK rfl rfl rfl (by first | exact .const | exact .tmp rfl) rfl .here (by first | exact HL1.out | exact HL2.out _) Try.sizeOf5 rfl ?_; clear HO HK; intro wN HO HK; (try simp only [Act.put, List.setIfInBounds_toArray, List.set_cons_zero, List.set_cons_succ]))
      refine ⟨HK.from hlt, HK.kp _, ?_⟩
      dsimp only
      rw [H3.out]
      rw [List.set_set] at HO
      exact HO
    · have b1 : (g == 1) = false := beq_eq_false_iff_ne.2 h1
      have H3 := Lib.hid (hst.trans (by rw [if_neg h1]))
      clear hst h1
      go_wp2_with (first
      | (go_at_call 15; refine (get_calls' m true y g HG.out _).mono ?_; rintro eN wN ⟨rfl, hbN⟩; have HON := HO.call hbN; have HKN := HK.below hbN; clear HO HK hbN; have HO := HON; have HK := HKN; clear HON HKN)
      | ((with_reducible refine gate ?_); (first
      | ((refine own_box HO rfl rfl rfl ?_); clear HO; intro gN wN hgN HO; (simp only [List.nil_append, List.cons_append] at HO); (try simp only [Act.put, List.setIfInBounds_toArray, List.set_cons_zero, List.set_cons_succ]))
      | ((refine own_load (T := 23) HO rfl rfl rfl (by first | exact .head _ | exact .tail _ (.head _) | exact .tail _ (.tail _ (.head _)) | exact .tail _ (.tail _ (.tail _ (.head _))) | exact .tail _ (.tail _ (.tail _ (.tail _ (.head _)))) | exact .tail _ (.tail _ (.tail _ (.tail _ (.tail _ (.head _)))))) Try.isAgg23 Try.sizeOf23 (by repeat constructor) ?_); (try simp only [Act.put, List.setIfInBounds_toArray, List.set_cons_zero, List.set_cons_succ]))
      | ((refine own_store (T := 23) HO rfl rfl rfl rfl (by first | exact .here | exact .there (.here) | exact .there (.there (.here)) | exact .there (.there (.there (.here))) | exact .there (.there (.there (.there (.here)))) | exact .there (.there (.there (.there (.there (.here)))))) Try.sizeOf23 (by repeat constructor) rfl ?_); clear HO; intro wN HO; (try simp only [Act.put, List.setIfInBounds_toArray, List.set_cons_zero, List.set_cons_succ])))))
      refine wpIn_cond_false rfl ?_
      refine wpIn_skip ?_
      refine ⟨HK.from hlt, HK.kp _, ?_⟩
      dsimp only
      rw [H3.out]
      exact HO
  case done =>
    rintro D ys W hD rfl hI hK
    clear HO hc1 hc3 hcL
    have HO := hI
    clear hI
    obtain ⟨R, hR⟩ : ∃ R, List.foldl (stepS m) s (pairsL nums) = R := ⟨_, rfl⟩
    have hRl : R.length = 12 := by rw [← hR, foldS_len, HS.out]
    rw [hR] at HO
    have hsv : saveL m s nums = R := hR
    rw [hsv]
    have hln : (u8s R).length = 12 := by simp [hRl]
    have HSL : Hid (Slc (u8s R) 0 12 (u8s R)) := Lib.hid (by have := Slc.all (u8s R); rwa [hln] at this)
    have HSZ : Hid (∀ w, (sizeOf 39).run Try.prog w = .ok (u8s R).length w) := Lib.hid (by rw [hln]; exact Try.sizeOf39)
    have HONE : Hid ((u8s R).all (·.oneCell') = true) := Lib.hid (by rw [List.all_eq_true]; intro v hv; obtain ⟨z, _, rfl⟩ := List.mem_map.1 hv; rfl)
    have HLN := Lib.hid hln
    have HXS : XS 39 (fun w : World => w.heap[D]? = some (.deferred (some []))) := fun w g cs cs' h hg => (setRow_other w g D _ (fun e => by subst e; dsimp only at h; rw [hg] at h; cases h)).trans h
    have hD2 : w.heap.size ≤ D := by omega
    clear hR hRl hsv hln
    refine wpIn_seq ?_
    refine wideRegion ?_
    go_wp2_with ((with_reducible refine gate ?_); (first
      | (refine own_load (T := 39) (n := 12) (vs := u8s R) HO rfl rfl rfl (.head _) Try.isAgg39 Try.sizeOf39 HSL.out ?_; (try simp only [Act.put, List.setIfInBounds_toArray, List.set_cons_zero, List.set_cons_succ]))
      | (refine own_storeX (T := 39) (vs := u8s R) HO (X := fun w : World => w.heap[D]? = some (.deferred (some []))) hK rfl rfl rfl rfl (.there (.there .here)) HXS HSZ.out (PutAt.all _ _ HLN.out) HONE.out ?_; clear HO hK; intro wN HO hK; (try simp only [Act.put, List.setIfInBounds_toArray, List.set_cons_zero, List.set_cons_succ]))))
    refine wpIn_ret ?_
    have HO2 : Mine w (wN.putObj D (.deferred none)) _ := (mine_own (β := Unit) (B := w.heap.size) (fun _ => _) (fun s p hp o ho => by
      simp only [List.mem_cons, List.not_mem_nil, or_false] at hp
      rcases hp with rfl | rfl | rfl <;> exact cells_isCells ho) (Nat.le_refl _)).putObj (s := ()) _ HO hD2 hK rfl
    refine ⟨by simp, .inl ⟨_, _, rfl, run_takeDeferred hK, ?_⟩⟩
    exact ⟨_, own_results1 HO2 Try.results20 rfl (.tail _ (.tail _ (.head _))) Try.isAgg39 Try.sizeOf39 HSL.out, rfl, HO2.below⟩
  case stop =>
    rintro D c pre W _ _ h _
    exact h.elim
end Go.Proofs.Ytllloedhlcdbjaa
end
section
namespace Go.Proofs.Ytllloedhlcdbjaa
set_option linter.unusedVariables false
set_option linter.unusedSimpArgs false
open Go.RowKit Kit
theorem part_u8 (xs : List Int) (i : Nat) (h : i < xs.length) (w : World) : (part 5 (u8s xs).toArray (i * 1)).run Try.prog w = .ok (.int .u8 (xs.getD i 0)) w := by
  have hx : (u8s xs)[i]? = some (.int .u8 (xs.getD i 0)) := by simp [h, List.getD]
  have h1 := Try.isAgg5 w
  simp [part, Sem.run_bind, h1, hx, h, Sem.run, Result.andThen, List.getD]
theorem eqItems_u8 (d : Nat) (xs ys : List Int) (w : World) : ∀ (is : List Nat), (∀ i ∈ is, i < xs.length ∧ i < ys.length) →
    (Op.eqItems (d + 1) 5 1 (u8s xs).toArray (u8s ys).toArray is).run Try.prog w = .ok (is.all fun i => xs.getD i 0 == ys.getD i 0) w
  | [], _ => by simp [Op.eqItems]
  | i :: is, h => by
    have hi := h i (by simp)
    have ih := eqItems_u8 d xs ys w is (fun j hj => h j (by simp [hj]))
    have e : (Op.equalIn (d + 1) 5 (.int .u8 (xs.getD i 0)) (.int .u8 (ys.getD i 0))).run Try.prog w = .ok (xs.getD i 0 == ys.getD i 0) w := by go_simp
    simp only [Op.eqItems, Sem.run_bind, part_u8 xs i hi.1, part_u8 ys i hi.2, Result.andThen_ok, e]
    rw [List.all_cons]
    cases hb : xs.getD i 0 == ys.getD i 0
    · simp only [Bool.not_false, if_true, Sem.run_pure, Bool.false_and]
    · simp only [Bool.not_true, Bool.false_eq_true, if_false, Bool.true_and]
      exact ih
theorem all_same (xs ys : List Int) (hx : xs.length = 12) (hy : ys.length = 12) : ((List.range 12).all fun i => xs.getD i 0 == ys.getD i 0) = decide (xs = ys) := by
  rw [Bool.eq_iff_iff, decide_eq_true_iff, List.all_eq_true]
  constructor
  · intro h
    apply List.ext_getElem (by omega)
    intro i h1 h2
    have := h i (List.mem_range.2 (by omega))
    simpa [List.getD, h1, h2] using this
  · rintro rfl i _
    simp
theorem equal_saved (xs ys : List Int) (hx : xs.length = 12) (hy : ys.length = 12) (w : World) : (Op.equal 39 (.agg (u8s xs).toArray) (.agg (u8s ys).toArray)).run Try.prog w = .ok (decide (xs = ys)) w := by
  obtain ⟨i, hi⟩ : ∃ i, Try.prog.info? 5 = some i := ⟨_, rfl⟩
  rw [← all_same xs ys hx hy]
  refine (run_equalIn_array (P := Try.prog) (w := w) _ (u8s xs).toArray (u8s ys).toArray Try.underlying39 hi).trans ?_
  rw [show Try.prog.cellsOf 5 = 1 by kernel_rfl]
  exact eqItems_u8 _ xs ys w _ (fun i hi => by have := List.mem_range.1 hi; omega)
theorem equal_saved' (xs ys : List Int) (hx : xs.length = 12) (hy : ys.length = 12) (w : World) : (Op.equal 38 (.agg (u8s xs).toArray) (.agg (u8s ys).toArray)).run Try.prog w = .ok (decide (xs = ys)) w := by
  obtain ⟨i, hi⟩ : ∃ i, Try.prog.info? 5 = some i := ⟨_, rfl⟩
  rw [← all_same xs ys hx hy]
  refine (run_equalIn_array (P := Try.prog) (w := w) _ (u8s xs).toArray (u8s ys).toArray Try.underlying38 hi).trans ?_
  rw [show Try.prog.cellsOf 5 = 1 by kernel_rfl]
  exact eqItems_u8 _ xs ys w _ (fun i hi => by have := List.mem_range.1 hi; omega)
end Go.Proofs.Ytllloedhlcdbjaa
end
section
namespace Go.Proofs.Ytllloedhlcdbjaa
set_option linter.unusedVariables false
set_option linter.unusedSimpArgs false
open Go.RowKit Kit Go.Shelf Go.Proofs.YtllloedhlcdbjaaW.PrintWords
attribute [local go_sem] Oper.semAt_some
def stepR (s : List Int) (m : Md) (p : Fin 12 × Int) : Md := if s.getD p.1.val 0 = 1 ∨ s.getD p.1.val 0 = 2 then (setM m true p.2 (s.getD p.1.val 0 == 1)).1 else m
def restL (s : List Int) (m : Md) (nums : List Int) : Md := (pairsL nums).foldl (stepR s) m
def zero12 : List Int := [0, 0, 0, 0, 0, 0, 0, 0, 0, 0, 0, 0]
theorem stepR_zero (m : Md) (p : Fin 12 × Int) : stepR zero12 m p = m := by
  obtain ⟨⟨j, hj⟩, y⟩ := p
  have : ∀ j : Fin 12, zero12.getD j.val 0 = 0 := by decide
  have h := this ⟨j, hj⟩
  unfold stepR
  simp only at h ⊢
  rw [h]
  simp
theorem restL_zero (m : Md) (nums : List Int) : restL zero12 m nums = m := by
  unfold restL
  generalize pairsL nums = l
  induction l with
  | nil => rfl
  | cons p l ih => rw [List.foldl_cons, stepR_zero, ih]
namespace Kit
section
variable {P : Program} {l : List Oper} {s i : Nat} {os o : Oper} {W0 w0 : World} {bs bs' : Res} {fs fs' : List Fact} {vals : Nat → Value} {A : Act}
theorem Owes.before (h1 : i ≠ s) (h2 : waits l.toArray os i = true) (h : ∀ w, (∀ j, waits l.toArray o j = true → Facts fs j (vals j) w) → Mine W0 w bs → Below w0.heap.size w0 w → StepOk P l.toArray o A w fun v w' => Below w.heap.size w w' ∧ Facts fs i v w') : Owes P l s os W0 w0 bs bs' fs fs' vals A i o := by
  unfold Owes; rw [if_neg h1, if_pos h2]; exact h
theorem Owes.after (h1 : i ≠ s) (h2 : waits l.toArray os i = false) (h : ∀ w, (∀ j, waits l.toArray o j = true → Facts fs j (vals j) w ∨ Facts fs' j (vals j) w) → StepOk P l.toArray o A w fun v w' => w' = w ∧ Facts fs i v w ∧ Facts fs' i v w) : Owes P l s os W0 w0 bs bs' fs fs' vals A i o := by
  unfold Owes; rw [if_neg h1, if_neg (by rw [h2]; decide)]; exact h
theorem Owes.store (h : ∀ w, (∀ j, waits l.toArray o j = true → Facts fs j (vals j) w) → Mine W0 w bs → Below w0.heap.size w0 w → StepOk P l.toArray o A w fun v w' => Mine W0 w' bs' ∧ Facts fs' s v w' ∧ ∀ j, j ≠ s → Facts fs j (vals j) w → Facts fs' j (vals j) w') : Owes P l s os W0 w0 bs bs' fs fs' vals A s o := by
  unfold Owes; rw [if_pos rfl]; exact h
theorem Keep.stored {g : Nat} {A B C : World} (h : Keep g A B) (hs : C.heap.size = B.heap.size) (hc : ∀ b, B.heap.size ≤ b ∨ b ≠ g → C.heap[b]? = B.heap[b]?) : Keep g A C :=
  ⟨by rw [hs]; exact h.size, fun k hk hne => (hc k (.inr hne)).trans (h.same k hk hne)⟩
theorem Stays.keep (g : Nat) (A : World) : Stays (fun _ w => Keep g A w) := fun _ _ _ h hb => h.below hb
end
end Kit
attribute [local irreducible] wpList Calls wpQuiet
set_option maxRecDepth 100000 in
set_option maxHeartbeats 4000000 in
theorem restore_calls (s : List Int) (hs : s.length = 12) (m : Md) (A : Option Addr) (c : Nat) (nums : List Int) (hn : nums.length ≤ 1000000) (w : World) (hC : (Kd.int .i64).C w A nums.length nums) :
    Calls Try.prog 22 #[.agg (u8s s).toArray, m.v, .slice A nums.length c] w fun e w' => e = .returned (restL s m nums).v ∧ Below w.heap.size w w' := by
  refine (callsIn_wide (n := 5)).1 ?_
  have HO := Mine.start w
  have HS := Lib.hid hs
  have HC := Lib.hid hC
  have HN := Lib.hid hn
  obtain ⟨b0, hb0⟩ : ∃ b, decide (s = zero12) = b := ⟨_, rfl⟩
  have HE : Hid (∀ w, (Op.equal 39 (.agg (u8s s).toArray) (.agg #[.int .u8 0, .int .u8 0, .int .u8 0, .int .u8 0, .int .u8 0, .int .u8 0, .int .u8 0, .int .u8 0, .int .u8 0, .int .u8 0, .int .u8 0, .int .u8 0])).run Try.prog w = .ok b0 w) := Lib.hid fun w => (equal_saved s zero12 hs rfl w).trans (by rw [hb0])
  have HB := Lib.hid hb0
  have HSL : Hid (Slc (u8s s) 0 12 (u8s s)) := Lib.hid (by have := Slc.all (u8s s); rwa [show (u8s s).length = 12 by simp [hs]] at this)
  clear hs hC hn hb0
  refine callsIn_of_wp_marks Try.func22 rfl trivial ?_ rfl
  simp only [Try.ntmps22, List.size_toArray, List.length_cons, List.length_nil, Nat.reduceAdd, Nat.reduceSub, Array.replicate_succ, Array.replicate_zero, List.push_toArray, List.append_toArray, List.nil_append, List.cons_append]
  refine wpIn_seq ?_
  refine wideRegion ?_
  go_wp2_with (first
      | ((with_reducible refine gate ?_); (first
      | ((with_reducible refine gateAt (N := 4) rfl ?_); refine own_box HO rfl rfl (cs := [.bool m.cursor, .bool m.keypad, .bool m.back, .bool m.focus, .bool m.paste, .bool m.lock, .bool m.line, .int .i64 m.mouse, .int .i64 m.coding, .int .i64 m.other]) rfl ?_; clear HO; intro gM wN hgN HO; (simp only [List.nil_append, List.cons_append] at HO); (try simp only [Act.put, List.setIfInBounds_toArray, List.set_cons_zero, List.set_cons_succ]))
      | ((with_reducible refine gateAt (N := 3) rfl ?_); refine own_box HO rfl rfl (cs := u8s s) rfl ?_; clear HO; intro gS wN hgN HO; (simp only [List.nil_append, List.cons_append] at HO); (try simp only [Act.put, List.setIfInBounds_toArray, List.set_cons_zero, List.set_cons_succ]))
      | ((refine own_box HO rfl rfl rfl ?_); clear HO; intro gR wN hgR HO; (simp only [List.nil_append, List.cons_append] at HO); (try simp only [Act.put, List.setIfInBounds_toArray, List.set_cons_zero, List.set_cons_succ]))
      | ((refine own_alloc (T := 23) HO rfl rfl Try.zeroValue23 rfl ?_); clear HO; intro gR wN hgR HO; (simp only [List.nil_append, List.cons_append] at HO); (try simp only [Act.put, List.setIfInBounds_toArray, List.set_cons_zero, List.set_cons_succ]))
      | ((refine own_load (T := 23) HO rfl rfl rfl (by first | exact .head _ | exact .tail _ (.head _) | exact .tail _ (.tail _ (.head _)) | exact .tail _ (.tail _ (.tail _ (.head _))) | exact .tail _ (.tail _ (.tail _ (.tail _ (.head _)))) | exact .tail _ (.tail _ (.tail _ (.tail _ (.tail _ (.head _)))))) Try.isAgg23 Try.sizeOf23 (by repeat constructor) ?_); (try simp only [Act.put, List.setIfInBounds_toArray, List.set_cons_zero, List.set_cons_succ]))
      | ((refine own_store (T := 23) HO rfl rfl rfl rfl (by first | exact .here | exact .there (.here) | exact .there (.there (.here)) | exact .there (.there (.there (.here))) | exact .there (.there (.there (.there (.here)))) | exact .there (.there (.there (.there (.there (.here)))))) Try.sizeOf23 (by repeat constructor) rfl ?_); clear HO; intro wN HO; (try simp only [Act.put, List.setIfInBounds_toArray, List.set_cons_zero, List.set_cons_succ])))))
  refine wpIn_seq ?_
  refine wpIn_seq ?_
  refine wideRegion ?_
  go_wp2_with ((with_reducible refine gate ?_); (first
    | (refine own_load (T := 39) (n := 12) (vs := u8s s) HO rfl rfl rfl (.head _) Try.isAgg39 Try.sizeOf39 HSL.out ?_; (try simp only [Act.put, List.setIfInBounds_toArray, List.set_cons_zero, List.set_cons_succ]))
    | (refine own_eql (t := 39) rfl rfl rfl rfl (by kernel_rfl) HE.out ?_; (try simp only [Act.put, List.setIfInBounds_toArray, List.set_cons_zero, List.set_cons_succ]))))
  cases b0
  case true =>
    have hz : s = zero12 := of_decide_eq_true HB.out
    subst hz
    rw [restL_zero]
    refine wpIn_cond_true rfl ?_
    refine wpIn_seq ?_
    refine wideRegion ?_
    go_wp2_with (first
      | ((with_reducible refine gate ?_); (first
      | ((refine own_box HO rfl rfl rfl ?_); clear HO; intro gN wN hgN HO; (simp only [List.nil_append, List.cons_append] at HO); (try simp only [Act.put, List.setIfInBounds_toArray, List.set_cons_zero, List.set_cons_succ]))
      | ((refine own_load (T := 23) HO rfl rfl rfl (by first | exact .head _ | exact .tail _ (.head _) | exact .tail _ (.tail _ (.head _)) | exact .tail _ (.tail _ (.tail _ (.head _))) | exact .tail _ (.tail _ (.tail _ (.tail _ (.head _)))) | exact .tail _ (.tail _ (.tail _ (.tail _ (.tail _ (.head _)))))) Try.isAgg23 Try.sizeOf23 (by repeat constructor) ?_); (try simp only [Act.put, List.setIfInBounds_toArray, List.set_cons_zero, List.set_cons_succ]))
      | ((refine own_store (T := 23) HO rfl rfl rfl rfl (by first | exact .here | exact .there (.here) | exact .there (.there (.here)) | exact .there (.there (.there (.here))) | exact .there (.there (.there (.there (.here)))) | exact .there (.there (.there (.there (.there (.here)))))) Try.sizeOf23 (by repeat constructor) rfl ?_); clear HO; intro wN HO; (try simp only [Act.put, List.setIfInBounds_toArray, List.set_cons_zero, List.set_cons_succ])))))
    refine wpIn_ret ?_
    exact ⟨_, own_results1 HO Try.results22 rfl (.tail _ (.tail _ (.head _))) Try.isAgg23 Try.sizeOf23 (by repeat constructor), rfl, HO.below⟩
  case false =>
    refine wpIn_cond_false rfl ?_
    refine wpIn_skip ?_
    refine wpIn_seq ?_
    refine wpIn_seq ?_
    refine wideRegion ?_
    go_wp2_with (go_at_call 31; refine (places_calls A _ c _).mono ?_; rintro eN wN ⟨v, rfl, ⟨g1, g3, gL, cap, rest, rfl, hg1, hg3, hgL, hc1, hc3, hcL, hcap⟩, hbN⟩; have hlt : gM < _ := HO.lt (.tail _ (.head _)); have HON := HO.call hbN; have HX := Lib.hid (And.intro (Nat.ne_of_gt (Nat.lt_of_lt_of_le hlt hg3)) (And.intro (Nat.ne_of_gt (Nat.lt_of_lt_of_le hlt hgL)) (And.intro hc1 (And.intro hc3 hcL)))); clear HO hbN hlt hg1 hg3 hgL hc1 hc3 hcL hcap; have HO := HON; clear HON)
    refine wpIn_block ?_
    obtain ⟨hX3, hXL, hc1, hc3, hcL⟩ := HX.out
    have hge : w.heap.size ≤ gM := (HO.held _ (.tail _ (.head _))).1
    have hlt : gM < wN.heap.size := HO.lt (.tail _ (.head _))
    refine wpIn_rangeFunc_ownG (F := Fence.wide) rfl (by omega) (gf := 41) (lb := #[.pointer (some ⟨g1, 0, none⟩), .pointer (some ⟨g3, 0, none⟩)]) rfl trivial (enters_of Try.func41 (by kernel_rfl) rfl)
      (places_stops 4 (by omega) wN.heap.size gM g1 g3 gL cap c rest A nums HN.out wN hc1 hc3 hcL ⟨(Array.getElem?_eq_some_iff.1 hc3).1, hX3⟩ ⟨(Array.getElem?_eq_some_iff.1 hcL).1, hXL⟩ (nums_of HC.out HO.below hge hlt)) (fun h k => h.trans k) (fun W l o o' hl _ _ _ k o2 hk hne h => (World.putObj_heap_other (show k ≠ l by omega)).trans h) (Below.refl _ _) (fun _ => rfl)
      (fun pre W => Mine w W [(gS, IsCells (u8s s) 39), (gM, IsCells [.bool (pre.foldl (stepR s) m).cursor, .bool (pre.foldl (stepR s) m).keypad, .bool (pre.foldl (stepR s) m).back, .bool (pre.foldl (stepR s) m).focus, .bool (pre.foldl (stepR s) m).paste, .bool (pre.foldl (stepR s) m).lock, .bool (pre.foldl (stepR s) m).line, .int .i64 (pre.foldl (stepR s) m).mouse, .int .i64 (pre.foldl (stepR s) m).coding, .int .i64 (pre.foldl (stepR s) m).other] 23), (gR, IsCells [.bool false, .bool false, .bool false, .bool false, .bool false, .bool false, .bool false, .int .i64 0, .int .i64 0, .int .i64 0] 23)])
      (fun _ _ _ => False)
      (mine_own _ (fun s p hp o ho => by
        simp only [List.mem_cons, List.not_mem_nil, or_false] at hp
        rcases hp with rfl | rfl | rfl <;> exact cells_isCells ho) (by have := HO.below.size; omega))
      (fun _ _ _ _ _ hs _ _ => hs) HO
      (fun x => { tmps := #[.agg (u8s s).toArray, m.v, .slice A nums.length c, .pointer (some ⟨gS, 0, none⟩), .pointer (some ⟨gM, 0, none⟩), undef, .pointer (some ⟨gR, 0, none⟩), .int .i64 (x.1.val : Int), .int .i64 x.2, .agg (u8s s).toArray, .agg #[.int .u8 0, .int .u8 0, .int .u8 0, .int .u8 0, .int .u8 0, .int .u8 0, .int .u8 0, .int .u8 0, .int .u8 0, .int .u8 0, .int .u8 0, .int .u8 0], .bool false, undef, .slice A nums.length c, .func (.func 41) #[] #[.pointer (some ⟨g1, 0, none⟩), .pointer (some ⟨g3, 0, none⟩)], .int .i64 (x.1.val : Int), .int .i64 x.2, undef, undef, undef, undef, undef, undef, undef, undef, undef, undef, undef, undef, undef, undef, undef, undef, undef, undef, undef, undef, undef], defers := [] }) ?assign ?body ?done ?stop
    case assign =>
      intro l x W K hK
      gi_wp2
      exact hK
    case body =>
      rintro l pre x W hI _
      clear HO hc1 hc3 hcL
      have HO := hI
      have HK := Keep.refl gM W
      clear hI
      obtain ⟨⟨j, hj⟩, y⟩ := x
      obtain ⟨F, hF⟩ : ∃ F, List.foldl (stepR s) m pre = F := ⟨_, rfl⟩
      obtain ⟨b, hb⟩ : ∃ b, s.getD j 0 = b := ⟨_, rfl⟩
      have hcell : (u8s s)[j]? = some (.int .u8 b) := by
        rw [← hb]
        have := HS.out
        simp [List.getD, show j < s.length by omega]
      have HCELL := Lib.hid hcell
      have hst : List.foldl (stepR s) m (pre ++ [(⟨j, hj⟩, y)]) = if b = 1 ∨ b = 2 then (setM F true y (b == 1)).1 else F := by
        rw [List.foldl_append, hF]
        show stepR s F (⟨j, hj⟩, y) = _
        unfold stepR
        simp only [hb]
      rw [hF] at HO
      have hj0 : (j : Int) < 12 := by omega
      clear hF hb hcell
      have HST := Lib.hid hst
      clear hst
      refine wpIn_block ?_
      refine wpIn_seq ?_
      refine inRegion (fun ⟨_, _, h⟩ => h) rfl ?_
      have h3 : b = 1 ∨ (b ≠ 1 ∧ b = 2) ∨ (b ≠ 1 ∧ b ≠ 2) := by omega
      rcases h3 with h1 | ⟨h1, h2⟩ | ⟨h1, h2⟩
      · subst h1
        obtain ⟨⟨r, ok⟩, hr⟩ : ∃ r, setM F true y true = r := ⟨_, rfl⟩
        have H3 : Hid (List.foldl (stepR s) m (pre ++ [(⟨j, hj⟩, y)]) = r) := Lib.hid (HST.out.trans (by rw [if_pos (by decide)]; show (setM F true y true).1 = r; rw [hr]))
        have HR := Lib.hid hr
        clear HST hr
        go_wp2_with ((with_reducible refine gate ?_); refine own_load1 (T := 5) HO rfl rfl rfl (.head _) Try.isAgg5 HCELL.out ?_; (try simp only [Act.put, List.setIfInBounds_toArray, List.set_cons_zero, List.set_cons_succ]))
        refine wpIn_cond_true rfl ?_
        refine region_putIn rfl 10 _ [fIs F.v, fIs (.int .i64 y), fIs (.int .i64 (j : Int)), fIs (.pointer (some ⟨gS, j, none⟩)), fIs (.int .u8 1), fIs (.bool true), fIs (.tuple #[r.v, .bool ok]), fIs (.tuple #[r.v, .bool ok]), fIs r.v, fIs (.bool ok)] ([fIs F.v, fIs (.int .i64 y), fIs (.int .i64 (j : Int)), fIs (.pointer (some ⟨gS, j, none⟩)), fIs (.int .u8 1), fIs (.bool true), fIs (.tuple #[r.v, .bool ok]), fIs (.tuple #[r.v, .bool ok]), fIs r.v, fIs (.bool ok)] ++ [fun _ w => Keep gM W w]) HO (by kernel_rfl) (by kernel_rfl) rfl (stays_cons (Stays.fIs _) (stays_cons (Stays.fIs _) (stays_cons (Stays.fIs _) (stays_cons (Stays.fIs _) (stays_cons (Stays.fIs _) (stays_cons (Stays.fIs _) (stays_cons (Stays.fIs _) (stays_cons (Stays.fIs _) (stays_cons (Stays.fIs _) (stays_cons (Stays.fIs _) stays_nil)))))))))) (stays_cons (Stays.fIs _) (stays_cons (Stays.fIs _) (stays_cons (Stays.fIs _) (stays_cons (Stays.fIs _) (stays_cons (Stays.fIs _) (stays_cons (Stays.fIs _) (stays_cons (Stays.fIs _) (stays_cons (Stays.fIs _) (stays_cons (Stays.fIs _) (stays_cons (Stays.fIs _) (stays_cons (Stays.keep gM W) stays_nil))))))))))) (bs' := [(gS, IsCells (u8s s) 39), (gM, IsCells [.bool r.cursor, .bool r.keypad, .bool r.back, .bool r.focus, .bool r.paste, .bool r.lock, .bool r.line, .int .i64 r.mouse, .int .i64 r.coding, .int .i64 r.other] 23), (gR, IsCells [.bool false, .bool false, .bool false, .bool false, .bool false, .bool false, .bool false, .int .i64 0, .int .i64 0, .int .i64 0] 23)]) ?_
        intro vals A hA
        simp [fillL, dstOf, List.range, List.range.loop, Act.put] at hA
        subst hA
        refine ⟨⟨?_, ?_, ?_, ?_, ?_, ?_, ?_, ?_, ?_, ?_, ?_, trivial⟩, ?_⟩
        case refine_1 =>
          refine Owes.before (by decide) (by kernel_rfl) ?_
          intro W2 hd hM hb0
          exact st_load hM rfl rfl rfl (.tail _ (.head _)) Try.isAgg23 Try.sizeOf23 (by repeat constructor) rfl
        case refine_2 =>
          refine Owes.before (by decide) (by kernel_rfl) ?_
          intro W2 hd hM hb0
          exact st_val rfl (by simp only [execOp]; first | (go_simp; done) | (go_simp; rfl)) rfl
        case refine_3 =>
          refine Owes.before (by decide) (by kernel_rfl) ?_
          intro W2 hd hM hb0
          exact st_val rfl (by simp only [execOp]; first | (go_simp; done) | (go_simp; rfl)) rfl
        case refine_4 =>
          refine Owes.before (by decide) (by kernel_rfl) ?_
          intro W2 hd hM hb0
          have v2 : vals 2 = .int .i64 (j : Int) := hd 2 (by kernel_rfl)
          rw [v2]
          exact st_val rfl (by simp only [execOp]; first | (go_simp; done) | (go_simp; rfl)) rfl
        case refine_5 =>
          refine Owes.before (by decide) (by kernel_rfl) ?_
          intro W2 hd hM hb0
          have v3 : vals 3 = .pointer (some ⟨gS, j, none⟩) := hd 3 (by kernel_rfl)
          rw [v3]
          exact st_load1 hM rfl rfl rfl (.head _) Try.isAgg5 HCELL.out rfl
        case refine_6 =>
          refine Owes.before (by decide) (by kernel_rfl) ?_
          intro W2 hd hM hb0
          have v4 : vals 4 = .int .u8 1 := hd 4 (by kernel_rfl)
          rw [v4]
          exact st_val rfl (by simp only [execOp]; first | (go_simp; done) | (go_simp; rfl)) rfl
        case refine_7 =>
          refine Owes.before (by decide) (by kernel_rfl) ?_
          intro W2 hd hM hb0
          have v0 : vals 0 = F.v := hd 0 (by kernel_rfl)
          have v1 : vals 1 = .int .i64 y := hd 1 (by kernel_rfl)
          have v5 : vals 5 = .bool true := hd 5 (by kernel_rfl)
          rw [v0, v1, v5]
          exact st_call rfl (by simp only [execOp]; first | (go_simp; done) | (go_simp; rfl)) (set_calls' F true y true r ok HR.out W2) (by rintro e w' ⟨rfl, hb⟩; exact ⟨_, rfl, hb, rfl⟩)
        case refine_8 =>
          refine Owes.before (by decide) (by kernel_rfl) ?_
          intro W2 hd hM hb0
          have v6 : vals 6 = .tuple #[r.v, .bool ok] := hd 6 (by kernel_rfl)
          rw [v6]
          exact st_val rfl (by simp only [execOp]; first | (go_simp; done) | (go_simp; rfl)) rfl
        case refine_9 =>
          refine Owes.before (by decide) (by kernel_rfl) ?_
          intro W2 hd hM hb0
          have v7 : vals 7 = .tuple #[r.v, .bool ok] := hd 7 (by kernel_rfl)
          rw [v7]
          exact st_val rfl (by simp only [execOp]; first | (go_simp; done) | (go_simp; rfl)) rfl
        case refine_10 =>
          refine Owes.after (by decide) (by kernel_rfl) ?_
          intro W2 hd
          have v7 : vals 7 = .tuple #[r.v, .bool ok] := (hd 7 (by kernel_rfl)).elim id id
          rw [v7]
          exact st_pure rfl (fun w => by simp only [execOp]; first | (go_simp; done) | (go_simp; rfl)) ⟨rfl, rfl⟩
        case refine_11 =>
          refine Owes.store ?_
          intro W2 hd hM hb0
          have v8 : vals 8 = r.v := hd 8 (by kernel_rfl)
          rw [v8]
          refine st_store (T := 23) (vs := [.bool r.cursor, .bool r.keypad, .bool r.back, .bool r.focus, .bool r.paste, .bool r.lock, .bool r.line, .int .i64 r.mouse, .int .i64 r.coding, .int .i64 r.other]) hM rfl rfl rfl rfl (.there .here) Try.sizeOf23 (by repeat constructor) rfl ?_
          intro W3 hM3 hb3 hoth hsz
          refine ⟨hM3, Kit.Keep.stored (HK.below hb0) hsz hoth, fun k hk hf => facts_turn (pure_cons (Pure.fIs _) (pure_cons (Pure.fIs _) (pure_cons (Pure.fIs _) (pure_cons (Pure.fIs _) (pure_cons (Pure.fIs _) (pure_cons (Pure.fIs _) (pure_cons (Pure.fIs _) (pure_cons (Pure.fIs _) (pure_cons (Pure.fIs _) (pure_cons (Pure.fIs _) pure_nil)))))))))) hk hf⟩
        case refine_12 =>
          intro W2 hd hM
          have HK2 : Keep gM W W2 := hd 10 (by decide)
          refine ⟨HK2.from hlt, HK2.kp _, ?_⟩
          dsimp only
          rw [H3.out]
          exact hM
      · subst h2
        clear h1
        obtain ⟨⟨r, ok⟩, hr⟩ : ∃ r, setM F true y false = r := ⟨_, rfl⟩
        have H3 : Hid (List.foldl (stepR s) m (pre ++ [(⟨j, hj⟩, y)]) = r) := Lib.hid (HST.out.trans (by rw [if_pos (by decide)]; show (setM F true y false).1 = r; rw [hr]))
        have HR := Lib.hid hr
        clear HST hr
        go_wp2_with ((with_reducible refine gate ?_); refine own_load1 (T := 5) HO rfl rfl rfl (.head _) Try.isAgg5 HCELL.out ?_; (try simp only [Act.put, List.setIfInBounds_toArray, List.set_cons_zero, List.set_cons_succ]))
        refine wpIn_cond_true rfl ?_
        refine region_putIn rfl 10 _ [fIs F.v, fIs (.int .i64 y), fIs (.int .i64 (j : Int)), fIs (.pointer (some ⟨gS, j, none⟩)), fIs (.int .u8 2), fIs (.bool false), fIs (.tuple #[r.v, .bool ok]), fIs (.tuple #[r.v, .bool ok]), fIs r.v, fIs (.bool ok)] ([fIs F.v, fIs (.int .i64 y), fIs (.int .i64 (j : Int)), fIs (.pointer (some ⟨gS, j, none⟩)), fIs (.int .u8 2), fIs (.bool false), fIs (.tuple #[r.v, .bool ok]), fIs (.tuple #[r.v, .bool ok]), fIs r.v, fIs (.bool ok)] ++ [fun _ w => Keep gM W w]) HO (by kernel_rfl) (by kernel_rfl) rfl (stays_cons (Stays.fIs _) (stays_cons (Stays.fIs _) (stays_cons (Stays.fIs _) (stays_cons (Stays.fIs _) (stays_cons (Stays.fIs _) (stays_cons (Stays.fIs _) (stays_cons (Stays.fIs _) (stays_cons (Stays.fIs _) (stays_cons (Stays.fIs _) (stays_cons (Stays.fIs _) stays_nil)))))))))) (stays_cons (Stays.fIs _) (stays_cons (Stays.fIs _) (stays_cons (Stays.fIs _) (stays_cons (Stays.fIs _) (stays_cons (Stays.fIs _) (stays_cons (Stays.fIs _) (stays_cons (Stays.fIs _) (stays_cons (Stays.fIs _) (stays_cons (Stays.fIs _) (stays_cons (Stays.fIs _) (stays_cons (Stays.keep gM W) stays_nil))))))))))) (bs' := [(gS, IsCells (u8s s) 39), (gM, IsCells [.bool r.cursor, .bool r.keypad, .bool r.back, .bool r.focus, .bool r.paste, .bool r.lock, .bool r.line, .int .i64 r.mouse, .int .i64 r.coding, .int .i64 r.other] 23), (gR, IsCells [.bool false, .bool false, .bool false, .bool false, .bool false, .bool false, .bool false, .int .i64 0, .int .i64 0, .int .i64 0] 23)]) ?_
        intro vals A hA
        simp [fillL, dstOf, List.range, List.range.loop, Act.put] at hA
        subst hA
        refine ⟨⟨?_, ?_, ?_, ?_, ?_, ?_, ?_, ?_, ?_, ?_, ?_, trivial⟩, ?_⟩
        case refine_1 =>
          refine Owes.before (by decide) (by kernel_rfl) ?_
          intro W2 hd hM hb0
          exact st_load hM rfl rfl rfl (.tail _ (.head _)) Try.isAgg23 Try.sizeOf23 (by repeat constructor) rfl
        case refine_2 =>
          refine Owes.before (by decide) (by kernel_rfl) ?_
          intro W2 hd hM hb0
          exact st_val rfl (by simp only [execOp]; first | (go_simp; done) | (go_simp; rfl)) rfl
        case refine_3 =>
          refine Owes.before (by decide) (by kernel_rfl) ?_
          intro W2 hd hM hb0
          exact st_val rfl (by simp only [execOp]; first | (go_simp; done) | (go_simp; rfl)) rfl
        case refine_4 =>
          refine Owes.before (by decide) (by kernel_rfl) ?_
          intro W2 hd hM hb0
          have v2 : vals 2 = .int .i64 (j : Int) := hd 2 (by kernel_rfl)
          rw [v2]
          exact st_val rfl (by simp only [execOp]; first | (go_simp; done) | (go_simp; rfl)) rfl
        case refine_5 =>
          refine Owes.before (by decide) (by kernel_rfl) ?_
          intro W2 hd hM hb0
          have v3 : vals 3 = .pointer (some ⟨gS, j, none⟩) := hd 3 (by kernel_rfl)
          rw [v3]
          exact st_load1 hM rfl rfl rfl (.head _) Try.isAgg5 HCELL.out rfl
        case refine_6 =>
          refine Owes.before (by decide) (by kernel_rfl) ?_
          intro W2 hd hM hb0
          have v4 : vals 4 = .int .u8 2 := hd 4 (by kernel_rfl)
          rw [v4]
          exact st_val rfl (by simp only [execOp]; first | (go_simp; done) | (go_simp; rfl)) rfl
        case refine_7 =>
          refine Owes.before (by decide) (by kernel_rfl) ?_
          intro W2 hd hM hb0
          have v0 : vals 0 = F.v := hd 0 (by kernel_rfl)
          have v1 : vals 1 = .int .i64 y := hd 1 (by kernel_rfl)
          have v5 : vals 5 = .bool false := hd 5 (by kernel_rfl)
          rw [v0, v1, v5]
          exact st_call rfl (by simp only [execOp]; first | (go_simp; done) | (go_simp; rfl)) (set_calls' F true y false r ok HR.out W2) (by rintro e w' ⟨rfl, hb⟩; exact ⟨_, rfl, hb, rfl⟩)
        case refine_8 =>
          refine Owes.before (by decide) (by kernel_rfl) ?_
          intro W2 hd hM hb0
          have v6 : vals 6 = .tuple #[r.v, .bool ok] := hd 6 (by kernel_rfl)
          rw [v6]
          exact st_val rfl (by simp only [execOp]; first | (go_simp; done) | (go_simp; rfl)) rfl
        case refine_9 =>
          refine Owes.before (by decide) (by kernel_rfl) ?_
          intro W2 hd hM hb0
          have v7 : vals 7 = .tuple #[r.v, .bool ok] := hd 7 (by kernel_rfl)
          rw [v7]
          exact st_val rfl (by simp only [execOp]; first | (go_simp; done) | (go_simp; rfl)) rfl
        case refine_10 =>
          refine Owes.after (by decide) (by kernel_rfl) ?_
          intro W2 hd
          have v7 : vals 7 = .tuple #[r.v, .bool ok] := (hd 7 (by kernel_rfl)).elim id id
          rw [v7]
          exact st_pure rfl (fun w => by simp only [execOp]; first | (go_simp; done) | (go_simp; rfl)) ⟨rfl, rfl⟩
        case refine_11 =>
          refine Owes.store ?_
          intro W2 hd hM hb0
          have v8 : vals 8 = r.v := hd 8 (by kernel_rfl)
          rw [v8]
          refine st_store (T := 23) (vs := [.bool r.cursor, .bool r.keypad, .bool r.back, .bool r.focus, .bool r.paste, .bool r.lock, .bool r.line, .int .i64 r.mouse, .int .i64 r.coding, .int .i64 r.other]) hM rfl rfl rfl rfl (.there .here) Try.sizeOf23 (by repeat constructor) rfl ?_
          intro W3 hM3 hb3 hoth hsz
          refine ⟨hM3, Kit.Keep.stored (HK.below hb0) hsz hoth, fun k hk hf => facts_turn (pure_cons (Pure.fIs _) (pure_cons (Pure.fIs _) (pure_cons (Pure.fIs _) (pure_cons (Pure.fIs _) (pure_cons (Pure.fIs _) (pure_cons (Pure.fIs _) (pure_cons (Pure.fIs _) (pure_cons (Pure.fIs _) (pure_cons (Pure.fIs _) (pure_cons (Pure.fIs _) pure_nil)))))))))) hk hf⟩
        case refine_12 =>
          intro W2 hd hM
          have HK2 : Keep gM W W2 := hd 10 (by decide)
          refine ⟨HK2.from hlt, HK2.kp _, ?_⟩
          dsimp only
          rw [H3.out]
          exact hM
      · have b1 : (b == 1) = false := beq_eq_false_iff_ne.2 h1
        have b2 : (b == 2) = false := beq_eq_false_iff_ne.2 h2
        have H3 : Hid (List.foldl (stepR s) m (pre ++ [(⟨j, hj⟩, y)]) = F) := Lib.hid (HST.out.trans (by rw [if_neg (by omega)]))
        clear HST h1 h2
        go_wp2_with ((with_reducible refine gate ?_); refine own_load1 (T := 5) HO rfl rfl rfl (.head _) Try.isAgg5 HCELL.out ?_; (try simp only [Act.put, List.setIfInBounds_toArray, List.set_cons_zero, List.set_cons_succ]))
        refine wpIn_cond_false rfl ?_
        refine wpIn_skip ?_
        refine ⟨HK.from hlt, HK.kp _, ?_⟩
        dsimp only
        rw [H3.out]
        exact HO
    case done =>
      rintro D ys W hD rfl hI hK
      clear HO hc1 hc3 hcL
      have HO := hI
      clear hI
      obtain ⟨F, hF⟩ : ∃ F, List.foldl (stepR s) m (pairsL nums) = F := ⟨_, rfl⟩
      rw [hF] at HO
      have hsv : restL s m nums = F := hF
      rw [hsv]
      have HXS : XS 23 (fun w : World => w.heap[D]? = some (.deferred (some []))) := fun w g cs cs' h hg => (setRow_other w g D _ (fun e => by subst e; dsimp only at h; rw [hg] at h; cases h)).trans h
      have hD2 : w.heap.size ≤ D := by omega
      clear hF hsv
      refine wpIn_seq ?_
      refine wideRegion ?_
      go_wp2_with ((with_reducible refine gate ?_); (first
        | (refine own_load (T := 23) HO rfl rfl rfl (.tail _ (.head _)) Try.isAgg23 Try.sizeOf23 (by repeat constructor) ?_; (try simp only [Act.put, List.setIfInBounds_toArray, List.set_cons_zero, List.set_cons_succ]))
        | (refine own_storeX (T := 23) (vs := [.bool F.cursor, .bool F.keypad, .bool F.back, .bool F.focus, .bool F.paste, .bool F.lock, .bool F.line, .int .i64 F.mouse, .int .i64 F.coding, .int .i64 F.other]) HO (X := fun w : World => w.heap[D]? = some (.deferred (some []))) hK rfl rfl rfl rfl (.there (.there .here)) HXS Try.sizeOf23 (by repeat constructor) rfl ?_; clear HO hK; intro wN HO hK; (try simp only [Act.put, List.setIfInBounds_toArray, List.set_cons_zero, List.set_cons_succ]))))
      refine wpIn_ret ?_
      have HO2 : Mine w (wN.putObj D (.deferred none)) _ := (mine_own (β := Unit) (B := w.heap.size) (fun _ => _) (fun s p hp o ho => by
        simp only [List.mem_cons, List.not_mem_nil, or_false] at hp
        rcases hp with rfl | rfl | rfl <;> exact cells_isCells ho) (Nat.le_refl _)).putObj (s := ()) _ HO hD2 hK rfl
      refine ⟨by simp, .inl ⟨_, _, rfl, run_takeDeferred hK, ?_⟩⟩
      exact ⟨_, own_results1 HO2 Try.results22 rfl (.tail _ (.tail _ (.head _))) Try.isAgg23 Try.sizeOf23 (by repeat constructor), rfl, HO2.below⟩
    case stop =>
      rintro D c pre W _ _ h _
      exact h.elim
end Go.Proofs.Ytllloedhlcdbjaa
end
section
namespace Go.Proofs.Ytllloedhlcdbjaa
set_option linter.unusedVariables false
set_option linter.unusedSimpArgs false
open Go.RowKit Kit Go.Proofs.YtllloedhlcdbjaaW.PrintWords
theorem len12 {R : List Int} (h : R.length = 12) : (u8s R).length = 12 := by simp [h]
theorem slc12 {R : List Int} (h : R.length = 12) : Slc (u8s R) 0 12 (u8s R) := by have := Slc.all (u8s R); rwa [len12 h] at this
theorem size12 {R : List Int} (h : R.length = 12) : ∀ w, (sizeOf 39).run Try.prog w = .ok (u8s R).length w := by rw [len12 h]; exact Try.sizeOf39
theorem one12 (R : List Int) : (u8s R).all (·.oneCell') = true := by rw [List.all_eq_true]; intro v hv; obtain ⟨z, _, rfl⟩ := List.mem_map.1 hv; rfl
theorem saveL_len (m : Md) (s : List Int) (nums : List Int) : (saveL m s nums).length = s.length := foldS_len m _ s
attribute [local irreducible] wpList Calls wpQuiet
def mPaste : Md := { Md.zero with paste := true }
def sPaste : List Int := [0, 0, 0, 0, 0, 0, 0, 0, 0, 0, 0, 1]
theorem awake_save : saveL mPaste zero12 [2004] = sPaste := by decide
theorem awake_rest : restL sPaste Md.zero [1, 2004] = mPaste := by decide
set_option maxRecDepth 100000 in
set_option maxHeartbeats 4000000 in
theorem awake07_calls (w : World) :
    Calls Try.prog 19 #[] w fun e w' => e = .returned (.bool true) ∧ Below w.heap.size w w' := by
  have HO := Mine.start w
  have HE1 : Hid (∀ w, (Op.equal 39 (.agg (u8s sPaste).toArray) (.agg #[.int .u8 0, .int .u8 0, .int .u8 0, .int .u8 0, .int .u8 0, .int .u8 0, .int .u8 0, .int .u8 0, .int .u8 0, .int .u8 0, .int .u8 0, .int .u8 1])).run Try.prog w = .ok true w) := Lib.hid fun w => (equal_saved sPaste sPaste rfl rfl w).trans (by rw [decide_eq_true rfl])
  have HE2 : Hid (∀ w, (Op.equal 23 mPaste.v mPaste.v).run Try.prog w = .ok true w) := Lib.hid fun w => (equal_modes mPaste mPaste w).trans (by rw [decide_eq_true rfl])
  go_enter Try.func19, Try.ntmps19
  go_wp2_with (first
      | (go_at_call 20; refine ((save_calls zero12 rfl mPaste (some ⟨gQ, 0, none⟩) 1 [2004] (by decide) _ (Kit.lit_ints (HO.at (by first | exact .head _ | exact .tail _ (.head _) | exact .tail _ (.tail _ (.head _)) | exact .tail _ (.tail _ (.tail _ (.head _))) | exact .tail _ (.tail _ (.tail _ (.tail _ (.head _)))) | exact .tail _ (.tail _ (.tail _ (.tail _ (.tail _ (.head _))))) | exact .tail _ (.tail _ (.tail _ (.tail _ (.tail _ (.tail _ (.head _)))))) | exact .tail _ (.tail _ (.tail _ (.tail _ (.tail _ (.tail _ (.tail _ (.head _))))))))) (by decide)))).mono ?_; rw [awake_save]; rintro eN wN ⟨rfl, hbN⟩; have HON := HO.call hbN; clear HO hbN; have HO := HON; clear HON)
      | (go_at_call 22; refine ((restore_calls sPaste rfl Md.zero (some ⟨gR, 0, none⟩) 2 [1, 2004] (by decide) _ (Kit.lit_ints (HO.at (by first | exact .head _ | exact .tail _ (.head _) | exact .tail _ (.tail _ (.head _)) | exact .tail _ (.tail _ (.tail _ (.head _))) | exact .tail _ (.tail _ (.tail _ (.tail _ (.head _)))) | exact .tail _ (.tail _ (.tail _ (.tail _ (.tail _ (.head _))))) | exact .tail _ (.tail _ (.tail _ (.tail _ (.tail _ (.tail _ (.head _)))))) | exact .tail _ (.tail _ (.tail _ (.tail _ (.tail _ (.tail _ (.tail _ (.head _))))))))) (by decide)))).mono ?_; rw [awake_rest]; rintro eN wN ⟨rfl, hbN⟩; have HON := HO.call hbN; clear HO hbN; have HO := HON; clear HON)
      | ((with_reducible refine gate ?_); (first
      | ((with_reducible refine gateAt (N := 1) rfl ?_); refine own_alloc (T := 23) HO rfl rfl Try.zeroValue23 rfl ?_; clear HO; intro gM wN hggM HO; (simp only [List.nil_append, List.cons_append] at HO); (try simp only [Act.put, List.setIfInBounds_toArray, List.set_cons_zero, List.set_cons_succ]))
      | ((with_reducible refine gateAt (N := 2) rfl ?_); refine own_alloc (T := 39) HO rfl rfl Try.zeroValue39 rfl ?_; clear HO; intro gS wN hggS HO; (simp only [List.nil_append, List.cons_append] at HO); (try simp only [Act.put, List.setIfInBounds_toArray, List.set_cons_zero, List.set_cons_succ]))
      | ((with_reducible refine gateAt (N := 3) rfl ?_); refine own_alloc (T := 23) HO rfl rfl Try.zeroValue23 rfl ?_; clear HO; intro gN wN hggN HO; (simp only [List.nil_append, List.cons_append] at HO); (try simp only [Act.put, List.setIfInBounds_toArray, List.set_cons_zero, List.set_cons_succ]))
      | ((with_reducible refine gateAt (N := 7) rfl ?_); refine own_lit HO rfl (n := 1) (cs := [.int .i64 (2004)]) (T := 3) (by first | (go_simp; done) | (go_simp; rfl)) ?_; clear HO; intro gQ wN hggQ HO; (simp only [List.nil_append, List.cons_append] at HO); (try simp only [Act.put, List.setIfInBounds_toArray, List.set_cons_zero, List.set_cons_succ]))
      | ((with_reducible refine gateAt (N := 11) rfl ?_); refine own_lit HO rfl (n := 2) (cs := [.int .i64 (1), .int .i64 (2004)]) (T := 3) (by first | (go_simp; done) | (go_simp; rfl)) ?_; clear HO; intro gR wN hggR HO; (simp only [List.nil_append, List.cons_append] at HO); (try simp only [Act.put, List.setIfInBounds_toArray, List.set_cons_zero, List.set_cons_succ]))
      | ((with_reducible refine gate ?_); refine own_load (T := 39) (n := 12) (vs := u8s sPaste) HO rfl rfl rfl (by first | exact .head _ | exact .tail _ (.head _) | exact .tail _ (.tail _ (.head _)) | exact .tail _ (.tail _ (.tail _ (.head _))) | exact .tail _ (.tail _ (.tail _ (.tail _ (.head _)))) | exact .tail _ (.tail _ (.tail _ (.tail _ (.tail _ (.head _))))) | exact .tail _ (.tail _ (.tail _ (.tail _ (.tail _ (.tail _ (.head _)))))) | exact .tail _ (.tail _ (.tail _ (.tail _ (.tail _ (.tail _ (.tail _ (.head _)))))))) Try.isAgg39 Try.sizeOf39 (slc12 rfl) ?_; (try simp only [Act.put, List.setIfInBounds_toArray, List.set_cons_zero, List.set_cons_succ]))
      | ((with_reducible refine gate ?_); refine own_store (T := 39) (vs := u8s sPaste) HO rfl rfl rfl rfl (by first | exact .here | exact .there (.here) | exact .there (.there (.here)) | exact .there (.there (.there (.here))) | exact .there (.there (.there (.there (.here)))) | exact .there (.there (.there (.there (.there (.here))))) | exact .there (.there (.there (.there (.there (.there (.here)))))) | exact .there (.there (.there (.there (.there (.there (.there (.here)))))))) (size12 rfl) (by exact PutAt.all _ _ (len12 rfl)) (one12 sPaste) ?_; clear HO; intro wN HO; (try simp only [Act.put, List.setIfInBounds_toArray, List.set_cons_zero, List.set_cons_succ]))
      | ((refine own_eql (t := 39) rfl rfl rfl rfl (by kernel_rfl) HE1.out ?_); (try simp only [Act.put, List.setIfInBounds_toArray, List.set_cons_zero, List.set_cons_succ]))
      | ((refine own_eql (t := 23) rfl rfl rfl rfl (by kernel_rfl) HE2.out ?_); (try simp only [Act.put, List.setIfInBounds_toArray, List.set_cons_zero, List.set_cons_succ]))
      | ((refine own_box HO rfl rfl rfl ?_); clear HO; intro gN wN hgN HO; (simp only [List.nil_append, List.cons_append] at HO); (try simp only [Act.put, List.setIfInBounds_toArray, List.set_cons_zero, List.set_cons_succ]))
      | ((refine own_load (T := 23) HO rfl rfl rfl (by first | exact .head _ | exact .tail _ (.head _) | exact .tail _ (.tail _ (.head _)) | exact .tail _ (.tail _ (.tail _ (.head _))) | exact .tail _ (.tail _ (.tail _ (.tail _ (.head _)))) | exact .tail _ (.tail _ (.tail _ (.tail _ (.tail _ (.head _))))) | exact .tail _ (.tail _ (.tail _ (.tail _ (.tail _ (.tail _ (.head _)))))) | exact .tail _ (.tail _ (.tail _ (.tail _ (.tail _ (.tail _ (.tail _ (.head _)))))))) Try.isAgg23 Try.sizeOf23 (by repeat constructor) ?_); (try simp only [Act.put, List.setIfInBounds_toArray, List.set_cons_zero, List.set_cons_succ]))
      | ((refine own_store (T := 23) HO rfl rfl rfl rfl (by first | exact .here | exact .there (.here) | exact .there (.there (.here)) | exact .there (.there (.there (.here))) | exact .there (.there (.there (.there (.here)))) | exact .there (.there (.there (.there (.there (.here))))) | exact .there (.there (.there (.there (.there (.there (.here)))))) | exact .there (.there (.there (.there (.there (.there (.there (.here)))))))) Try.sizeOf23 (by repeat constructor) rfl ?_); clear HO; intro wN HO; (try simp only [Act.put, List.setIfInBounds_toArray, List.set_cons_zero, List.set_cons_succ])))))
  go_ret
  exact ⟨rfl, HO.below⟩
end Go.Proofs.Ytllloedhlcdbjaa
end
section
namespace Go.Proofs.Ytllloedhlcdbjaa
open Go.ChangeShapes Go.WideShapes Go.ChangeAt Go.RowKit
set_option linter.unusedVariables false
set_option linter.unusedSimpArgs false
set_option maxRecDepth 100000
section
variable {H : Type} {enc : TypeId × Value → H} {W : World} {base : Nat} {spare : Nat → Bool} {held : Bool} {v : Value} {d : DataW H} {p : List MemPlace} {r : Reach} {b0 : Nat}
theorem open_saved (hv : Value.okWide Try.prog W r b0 38 v) (h : DataW.Trod enc Try.prog W base spare held 38 v d p) : ∃ s : List Int, s.length = 12 ∧ v = .agg (u8s s).toArray ∧ ∀ x ∈ s, (Lit.int .u8 x).wf = true := by
  obtain ⟨cs, rfl, hsz⟩ := okWide_array Try.underlying38 hv
  have hc0 : Try.prog.cellsOf 38 = 12 := by kernel_rfl
  have hc1 : Try.prog.cellsOf 5 = 1 := by kernel_rfl
  rw [hc0] at hsz
  obtain ⟨fuel, hf⟩ := h
  obtain ⟨xs, n, _, _, _, hlen, hx⟩ := DataW.trod_array Try.underlying38 hf
  rw [hc1] at hx
  have hcl2 : cs.toList.length = 12 := by simpa using hsz
  have one : ∀ i, i < 12 → ∃ y, cs.toList[i]? = some (.int .u8 y) ∧ (Lit.int .u8 y).wf = true := by
    intro i hi
    have e := hx i hi
    have x0 : xs[i]? = some xs[i] := by simp [hlen, hi]
    rw [x0, Nat.mul_one] at e
    have e2 : (Value.agg cs).cells.toList = cs.toList := rfl
    rw [e2] at e
    obtain ⟨y, z, hy⟩ := DataW.trod_int Try.underlying5 e
    refine ⟨y, ?_, hy.2⟩
    have h1 : (List.take 1 (List.drop i cs.toList))[0]? = some (.int .u8 y) := by rw [z]; rfl
    simpa using h1
  obtain ⟨s, hs⟩ : ∃ s : List Int, s = cs.toList.map fun v => match v with | .int _ y => y | _ => 0 := ⟨_, rfl⟩
  have hsl : s.length = 12 := by rw [hs, List.length_map]; exact hcl2
  have hcs : u8s s = cs.toList := by
    apply List.ext_getElem?
    intro i
    by_cases hi : i < 12
    · obtain ⟨y, hy, _⟩ := one i hi
      rw [hs]
      simp only [u8s, List.map_map, List.getElem?_map, hy]
      rfl
    · rw [List.getElem?_eq_none (by simp [hsl]; omega), List.getElem?_eq_none (by rw [hcl2]; omega)]
  refine ⟨s, hsl, by rw [hcs], fun x hxs => ?_⟩
  obtain ⟨i, hi, he⟩ := List.mem_iff_getElem.1 hxs
  obtain ⟨y, hy, hw⟩ := one i (by omega)
  have : (u8s s)[i]? = some (.int .u8 y) := by rw [hcs]; exact hy
  simp [hi] at this
  rw [← he, this]
  exact hw
end
end Go.Proofs.Ytllloedhlcdbjaa
end
section
namespace Go.Proofs.Ytllloedhlcdbjaa
open Go.ChangeShapes Go.WideShapes Go.ChangeAt Go.RowKit Go.Proofs.YtllloedhlcdbjaaW.PrintWords Kit
set_option linter.unusedVariables false
set_option maxRecDepth 100000
set_option linter.unusedSimpArgs false
theorem open_rowK {H : Type} {enc : TypeId × Value → H} {W : World} {v : Value} {d : DataW H} {p : List MemPlace} {t e : TypeId} {k : IntKind} (ht : Try.prog.underlying t = some (.slice e)) (he : Try.prog.underlying e = some (.int k)) (hc : Try.prog.cellsOf e = 1)
    (h : DataW.Trod enc Try.prog W 0 (fun _ => true) true t v d p) {r : Reach} {b0 : Nat} (hv : Value.okWide Try.prog W r b0 t v) :
    ∃ (A : Option Addr) (l : List Int) (c : Nat), v = .slice A l.length c ∧ l.length ≤ c ∧ (Kd.int k).C W A l.length l ∧ ∀ z ∈ l, (Lit.int k z).wf = true := by
  obtain ⟨a0, len, cap, rfl⟩ := okWide_slice ht hv
  obtain ⟨fuel, hf⟩ := h
  rcases open_ints ht he hc hf with ⟨hcs, hx⟩ | ⟨a, len', cap', zs, hcs, _, hl, hm, hz, hx, hcell, hwz⟩
  · simp [Value.cells] at hcs
    obtain ⟨rfl, rfl, rfl⟩ := hcs
    exact ⟨none, [], 0, rfl, Nat.le_refl _, ⟨rfl, by simp, fun h => by simp at h⟩, fun z hz => by cases hz⟩
  · simp [Value.cells] at hcs
    obtain ⟨rfl, rfl, rfl⟩ := hcs
    simp only [if_true] at hz
    have hlen : (zs.take len).length = len := by rw [List.length_take]; omega
    refine ⟨some a, zs.take len, cap, by rw [hlen], by rw [hlen]; exact hl, ?_, fun z hz => hwz z (List.mem_of_mem_take hz)⟩
    refine Kd.C_of_reads (d := (0 : Int)) ⟨rfl, by rw [hlen]; unfold maxLen at hm; omega, fun _ => ⟨a, rfl, fun j hj => ?_⟩⟩
    rw [hlen] at hj
    have hj2 : j < zs.length := by omega
    rw [hcell j hj2]
    simp [List.getD, hj, hj2]
theorem cellsOne_int : Try.prog.cellsOf 3 = 1 := by kernel_rfl
theorem open_intsK {H : Type} {enc : TypeId × Value → H} {W : World} {v : Value} {d : DataW H} {p : List MemPlace} (h : DataW.Trod enc Try.prog W 0 (fun _ => true) true 28 v d p) {r : Reach} {b0 : Nat} (hv : Value.okWide Try.prog W r b0 28 v) : ∃ (A : Option Addr) (l : List Int) (c : Nat), v = .slice A l.length c ∧ l.length ≤ c ∧ (Kd.int .i64).C W A l.length l ∧ (∀ z ∈ l, (Lit.int .i64 z).wf = true) := open_rowK Try.underlying28 Try.underlying3 cellsOne_int h hv
end Go.Proofs.Ytllloedhlcdbjaa
end
section
namespace Go.Proofs.Ytllloedhlcdbjaa.Kit
set_option linter.unusedVariables false
set_option linter.unusedSimpArgs false
open Go Go.RowKit MapKept
variable {P : Program} {ops : Array Oper} {R : Act → Prop} {a : Act} {rest : List Oper} {C : World → Prop}
theorem qg_move {d ty ps af gg} {x : Operand} (h : wpQuiet P ops C R (Oper.mk d (.move x) ty ps af gg :: rest) a) : wpQuiet P ops C R (Oper.mk d (.move x) ty ps af gg :: rest) a := h
theorem qg_assign {d ty ps af gg} {x : Operand} (h : wpQuiet P ops C R (Oper.mk d (.assign x) ty ps af gg :: rest) a) : wpQuiet P ops C R (Oper.mk d (.assign x) ty ps af gg :: rest) a := h
theorem qg_pick {d ty ps af gg} {c x y : Operand} (h : wpQuiet P ops C R (Oper.mk d (.pick c x y) ty ps af gg :: rest) a) : wpQuiet P ops C R (Oper.mk d (.pick c x y) ty ps af gg :: rest) a := h
theorem qg_load {d ty ps af gg} {T : TypeId} {x : Operand} (h : wpQuiet P ops C R (Oper.mk d (.load T x) ty ps af gg :: rest) a) : wpQuiet P ops C R (Oper.mk d (.load T x) ty ps af gg :: rest) a := h
theorem qg_call {d ty ps af gg c} (h : wpQuiet P ops C R (Oper.mk d (.call c) ty ps af gg :: rest) a) : wpQuiet P ops C R (Oper.mk d (.call c) ty ps af gg :: rest) a := h
theorem qg_binOp {d ty ps af gg b t x y u} (h : wpQuiet P ops C R (Oper.mk d (.binOp b t x y u) ty ps af gg :: rest) a) : wpQuiet P ops C R (Oper.mk d (.binOp b t x y u) ty ps af gg :: rest) a := h
end Go.Proofs.Ytllloedhlcdbjaa.Kit
end
section
namespace Go.Proofs.Ytllloedhlcdbjaa
set_option linter.unusedVariables false
set_option linter.unusedSimpArgs false
open Go.RowKit Kit Go.Proofs.YtllloedhlcdbjaaW.PrintWords
theorem ownL_idx (n : Int) : 0 ≤ idxI ownL n ↔ n ∈ ownL := by
  constructor
  · intro h
    have h2 := (idxI_range ownL n).2
    apply Classical.byContradiction
    intro hn
    have := idxI_miss ownL n (fun j hj e => hn (by
      rw [← e]
      simp [List.getD, hj]))
    omega
  · intro h
    rcases mem_ownL.1 h with rfl | rfl | rfl | rfl | rfl | rfl | rfl | rfl | rfl | rfl | rfl | rfl <;> decide
attribute [local irreducible] wpList Calls wpQuiet
end Go.Proofs.Ytllloedhlcdbjaa
end
section
namespace Go.Proofs.Ytllloedhlcdbjaa
set_option linter.unusedVariables false
set_option linter.unusedSimpArgs false
open Go.RowKit Kit Go.Proofs.YtllloedhlcdbjaaW.PrintWords
namespace Kit
theorem Pure.fAny : Pure fAny := fun _ _ _ h => h
theorem facts_mid {L1 L2 : List Fact} {p p' : Fact} (h1 : ∀ q ∈ L1, Pure q) (h2 : ∀ q ∈ L2, Pure q) {k : Nat} (hk : k ≠ L1.length) {v : Value} {w w' : World} (h : Facts (L1 ++ p :: L2) k v w) : Facts (L1 ++ p' :: L2) k v w' := by
  unfold Facts at h ⊢
  rw [List.getD_eq_getElem?_getD] at h ⊢
  by_cases hlt : k < L1.length
  · rw [List.getElem?_append_left hlt] at h ⊢
    have e : L1[k]? = some L1[k] := by simp [hlt]
    rw [e] at h ⊢
    exact h1 _ (List.getElem_mem hlt) _ _ _ h
  · rw [List.getElem?_append_right (by omega)] at h ⊢
    obtain ⟨i, hi⟩ : ∃ i, k - L1.length = i + 1 := ⟨k - L1.length - 1, by omega⟩
    rw [hi, List.getElem?_cons_succ] at h ⊢
    cases e : L2[i]? with
    | none => trivial
    | some q =>
      rw [e] at h
      exact h2 q (List.mem_of_getElem? e) _ _ _ h
theorem facts_at {L1 L2 : List Fact} {p : Fact} {v : Value} {w : World} : Facts (L1 ++ p :: L2) L1.length v w = p v w := by
  unfold Facts
  rw [List.getD_eq_getElem?_getD, List.getElem?_append_right (by omega)]
  simp
theorem new_stored {P : Program} {ops : Array Oper} {o : Oper} {w : World} {A : Act} {W0 : World} {bs : Res} {B iA s : Nat} {L1 L2 : List Fact} {T : TypeId} {Z cs : List Value} {x y : Operand} {vals : Nat → Value} (hM : Mine W0 w bs) (hlt : ∀ q ∈ bs, q.1 < B) (hW : W0.heap.size ≤ B)
    (hv : fVar B T Z (vals iA) w) (hiA : iA = L1.length) (hg : Region.wanted o (yielded ops A.tmps) = true) (ho : o.op = .store T x y) (hx : A.eval x = vals iA) (hy : (A.eval y).cells = cs.toArray)
    (hsz : ∀ w, (sizeOf T).run P w = .ok cs.length w) (hp : PutAt Z 0 cs cs) (h1 : cs.all (·.oneCell') = true) (hp1 : ∀ q ∈ L1, Pure q) (hp2 : ∀ q ∈ L2, Pure q) (hs : ∀ v w, Facts (L1 ++ fVar B T cs :: L2) s v w) :
    StepOk P ops o A w fun v w' => Mine W0 w' bs ∧ Facts (L1 ++ fVar B T cs :: L2) s v w' ∧ ∀ j, j ≠ s → Facts (L1 ++ fVar B T Z :: L2) j (vals j) w → Facts (L1 ++ fVar B T cs :: L2) j (vals j) w' := by
  obtain ⟨b, e, hge, hb⟩ := hv
  have hM2 := hM.take (p := IsCells Z T) hlt hW hge ⟨_, hb, rfl⟩
  have hu : ∀ (l : Res), Upd (l ++ [(b, IsCells Z T)]) b (IsCells Z T) (IsCells cs T) (l ++ [(b, IsCells cs T)]) := by
    intro l
    induction l with
    | nil => exact .here
    | cons x l ih => exact .there ih
  refine st_store (T := T) hM2 hg ho (by rw [hx, e]) hy (hu bs) hsz hp h1 ?_
  intro w' hM3 _ _ _
  have hblk := hM3.at (g := b) (cs := cs) (T := T) (List.mem_append_right _ (.head _))
  refine ⟨hM3.less (List.sublist_append_left _ _), hs _ _, fun j _ hf => ?_⟩
  by_cases hj : j = L1.length
  · subst hj
    rw [facts_at]
    exact ⟨b, by rw [← hiA]; exact e, hge, hblk⟩
  · exact facts_mid hp1 hp2 hj hf
end Kit
end Go.Proofs.Ytllloedhlcdbjaa
end
section
namespace Go.Proofs.Ytllloedhlcdbjaa
set_option linter.unusedVariables false
set_option linter.unusedSimpArgs false
open Go.RowKit Kit Go.Proofs.YtllloedhlcdbjaaW.PrintWords
theorem meas_wrap (len k : Nat) (h : k < len) (hl : len < 4611686018427387904) : len - (intOf (.int .i64 (wrap64 ((k : Int) + 1)))).toNat < len - (intOf (.int .i64 (k : Int))).toNat := by
  have e : wrap64 ((k : Int) + 1) = ((k + 1 : Nat) : Int) := by unfold wrap64; omega
  rw [e]
  show len - (((k + 1 : Nat) : Int)).toNat < len - ((k : Int)).toNat
  rw [Int.toNat_natCast, Int.toNat_natCast]
  omega
attribute [local irreducible] wpList Calls wpQuiet
end Go.Proofs.Ytllloedhlcdbjaa
end
section
namespace Go.Proofs.YtllloedhlcdbjaaW.PrintLast
open Go.Proofs.YtllloedhlcdbjaaW.PrintWords (Aside0)
section
variable {md : Region.Mode} {ops : Array Oper} {T : Bool × List (List Nat × List Nat)} {l l' li lj lk : Array Bool} {ds : List Nat} {i j k : Nat}
theorem set_of (h : (l.toList.set i true == l'.toList) = true) : (l.setIfInBounds i true == l') = true := by
  rw [beq_iff_eq] at h ⊢
  apply Array.ext'
  rw [Array.toList_setIfInBounds]
  exact h
end
end Go.Proofs.YtllloedhlcdbjaaW.PrintLast
end
section
namespace Go.Proofs.YtllloedhlcdbjaaW.PrintWords
open Go.RowKit
namespace Kd
structure Heap {α : Type} (d : Kd α) : Prop where
  K : ∀ {w w1 : World} {x : α} {cs : List Value}, (∀ k, k < w.heap.size → w1.heap[k]? = w.heap[k]?) → d.K w x cs → d.K w1 x cs
theorem cell_heap {w w1 : World} (hb : ∀ k, k < w.heap.size → w1.heap[k]? = w.heap[k]?) {a : Addr} {v : Value} (h : w.cell? a = some v) : w1.cell? a = some v := by
  have := hb a.block (World.block_lt_of_cell? w a h)
  simpa [World.cell?, this] using h
theorem Heap.C {α : Type} {d : Kd α} (hd : Heap d) {w w1 : World} {A : Option Addr} {n : Nat} {xs : List α} (hb : ∀ k, k < w.heap.size → w1.heap[k]? = w.heap[k]?) (h : d.C w A n xs) : d.C w1 A n xs :=
  ⟨h.1, h.2.1, fun hn => by
    obtain ⟨ad, e, hc⟩ := h.2.2 hn
    refine ⟨ad, e, fun j p hj => ?_⟩
    obtain ⟨c, hs, hr, hcell⟩ := hc j p hj
    exact ⟨c, hs, hd.K hb hr, fun i u hu => cell_heap hb (hcell i u hu)⟩⟩
end Kd
end Go.Proofs.YtllloedhlcdbjaaW.PrintWords
end
section
namespace Go.Proofs.YtllloedhlcdbjaaW.PrintWords
open Go.RowKit
def Kept (w W : World) (S : Nat → Prop) : Prop := w.heap.size ≤ W.heap.size ∧ ∀ i, i < w.heap.size → ¬ S i → W.heap[i]? = w.heap[i]?
section
variable {w W W2 : World} {S S2 S' : Nat → Prop}
theorem Kept.refl (w : World) (S : Nat → Prop) : Kept w w S := ⟨Nat.le_refl _, fun _ _ _ => rfl⟩
theorem Kept.of_below (h : Below w.heap.size w W) (S : Nat → Prop) : Kept w W S := ⟨h.size, fun i hi _ => h.block i hi⟩
theorem Kept.mono (h : Kept w W S) (hs : ∀ k, S k → S' k) : Kept w W S' := ⟨h.1, fun i hi hn => h.2 i hi (fun hk => hn (hs i hk))⟩
theorem Kept.then_ (h : Kept w W S) (k : Kept W W2 S2) (hs : ∀ k, S2 k → S k ∨ w.heap.size ≤ k) : Kept w W2 S :=
  ⟨Nat.le_trans h.1 k.1, fun i hi hn => (k.2 i (Nat.lt_of_lt_of_le hi h.1) (fun h2 => (hs i h2).elim hn (fun h3 => by omega))).trans (h.2 i hi hn)⟩
theorem Kept.below (h : Kept w W S) (hb : Below W.heap.size W W2) : Kept w W2 S := h.then_ (Kept.of_below hb (fun _ => False)) (fun _ hk => hk.elim)
theorem Kept.alloc (h : Kept w W S) (o : Obj) : Kept w (W.alloc o) S := h.below (below_alloc (Below.refl _ _) o)
theorem Kept.drew (h : Kept w W S) : Kept w W.drew S := h
theorem Kept.drewN (h : Kept w W S) (m : Nat) : Kept w (W.drewN m) S := h
theorem Kept.setCell (h : Kept w W S) {p : Addr} (hp : S p.block ∨ w.heap.size ≤ p.block) (u : Value) : Kept w (W.setCell p u) S :=
  h.then_ (S2 := fun k => k = p.block) ⟨by simp [World.setCell], fun i _ hn => Below.heap_setCell W p u i hn⟩ (fun k hk => by rw [hk]; exact hp)
theorem Kept.keep {g : Nat} (h : KeepBut w W g none) (k : Kept W W2 S2) (hs : ∀ k, S2 k → w.heap.size ≤ k) : KeepBut w W2 g none :=
  ⟨Nat.le_trans h.1 k.1, fun i hi hg hr => (k.2 i (Nat.lt_of_lt_of_le hi h.1) (fun h2 => by have := hs i h2; omega)).trans (h.2 i hi hg hr)⟩
end
end Go.Proofs.YtllloedhlcdbjaaW.PrintWords
end
section
namespace Go.Proofs.YtllloedhlcdbjaaW.PrintWords
open Go.RowKit
def Foot (P : World → Prop) (W : World) (ok : Nat → Prop) : Prop := ∀ W' : World, (∀ k, ok k → k < W.heap.size → W'.heap[k]? = W.heap[k]?) → P W'
namespace Foot
variable {P Q : World → Prop} {W W1 : World} {ok ok' : Nat → Prop}
theorem mono (h : Foot P W ok) (hok : ∀ k, ok k → ok' k) : Foot P W ok' := fun W' hW => h W' (fun k hk hlt => hW k (hok k hk) hlt)
end Foot
namespace Kd
def F {α : Type} (d : Kd α) (W : World) (ok : Nat → Prop) (A : Option Addr) (n : Nat) (xs : List α) : Prop := Foot (fun W => d.C W A n xs) W ok
def FK {α : Type} (d : Kd α) (W : World) (ok : Nat → Prop) (x : α) (c : List Value) : Prop := Foot (fun W => d.K W x c) W ok
end Kd
end Go.Proofs.YtllloedhlcdbjaaW.PrintWords
end
section
namespace Go.Proofs.YtllloedhlcdbjaaW.PrintWords
open Go.RowKit
namespace Kd
section
variable {α : Type} {d : Kd α} {e base n cc g : Nat} {ok ok' okp S : Nat → Prop} {w w1 W W1 : World} {A : Option Addr} {u v v1 : Value} {xs : List α} {x : α} {c : List Value}
def N {α : Type} (d : Kd α) (e : Nat) (w : World) (base : Nat) (ok : Nat → Prop) (v : Value) (xs : List α) : Prop :=
  (∀ k, v.ownBlock = some k → ok k) ∧ ∃ rows : List (List Value), rows.length = xs.length ∧ (raw d.sz).R e w base (fun k => some k = v.ownBlock) v rows ∧ ∀ (j : Nat) (x : α) (c : List Value), xs[j]? = some x → rows[j]? = some c → FK d w (fun k => ok k ∧ some k ≠ v.ownBlock) x c
end
end Kd
end Go.Proofs.YtllloedhlcdbjaaW.PrintWords
end
section
namespace Go.Proofs.YtllloedhlcdbjaaW.PrintWords
theorem Reps.one {α : Type} {R : α → List Value → Prop} {ps : List α} {cs : List Value} {p : α} {v : Value} (hp : R p [v]) (h : Reps R 1 ps cs) : Reps R 1 (p :: ps) (v :: cs) := by
  refine ⟨by simp [h.1], fun j q hq => ?_⟩
  cases j with
  | zero =>
    simp only [List.getElem?_cons_zero, Option.some.injEq] at hq
    subst hq
    simpa using hp
  | succ j =>
    simp only [List.getElem?_cons_succ] at hq
    have h1 := h.2 j q hq
    simpa [Nat.mul_one] using h1
theorem Reps.front {α : Type} {R : α → List Value → Prop} {size : Nat} {ps : List α} {cs c all : List Value} {p : α} (hp : R p c) (hc : c.length = size) (h : Reps R size ps cs) (ha : c ++ cs = all) : Reps R size (p :: ps) all := by
  subst ha
  refine ⟨by rw [List.length_append, hc, h.1, List.length_cons, Nat.succ_mul, Nat.add_comm], fun j q hq => ?_⟩
  cases j with
  | zero =>
    simp only [List.getElem?_cons_zero, Option.some.injEq] at hq
    subst hq
    rw [Nat.zero_mul, List.drop_zero, List.take_append_of_le_length (by omega), List.take_of_length_le (by omega)]
    exact hp
  | succ j =>
    simp only [List.getElem?_cons_succ] at hq
    have h1 := h.2 j q hq
    rw [Nat.succ_mul, List.drop_append, List.drop_of_length_le (by rw [hc]; exact Nat.le_add_left _ _), List.nil_append, hc, Nat.add_sub_cancel]
    exact h1
theorem Reps.c2 {α : Type} {R : α → List Value → Prop} {ps : List α} {cs : List Value} {p : α} {va vb : Value} (hp : R p [va, vb]) (h : Reps R 2 ps cs) : Reps R 2 (p :: ps) (va :: vb :: cs) := Reps.front hp rfl h rfl
theorem Reps.c3 {α : Type} {R : α → List Value → Prop} {ps : List α} {cs : List Value} {p : α} {va vb vc : Value} (hp : R p [va, vb, vc]) (h : Reps R 3 ps cs) : Reps R 3 (p :: ps) (va :: vb :: vc :: cs) := Reps.front hp rfl h rfl
theorem Reps.c4 {α : Type} {R : α → List Value → Prop} {ps : List α} {cs : List Value} {p : α} {va vb vc vd : Value} (hp : R p [va, vb, vc, vd]) (h : Reps R 4 ps cs) : Reps R 4 (p :: ps) (va :: vb :: vc :: vd :: cs) := Reps.front hp rfl h rfl
theorem Reps.c5 {α : Type} {R : α → List Value → Prop} {ps : List α} {cs : List Value} {p : α} {va vb vc vd ve : Value} (hp : R p [va, vb, vc, vd, ve]) (h : Reps R 5 ps cs) : Reps R 5 (p :: ps) (va :: vb :: vc :: vd :: ve :: cs) := Reps.front hp rfl h rfl
theorem Reps.c6 {α : Type} {R : α → List Value → Prop} {ps : List α} {cs : List Value} {p : α} {va vb vc vd ve vf : Value} (hp : R p [va, vb, vc, vd, ve, vf]) (h : Reps R 6 ps cs) : Reps R 6 (p :: ps) (va :: vb :: vc :: vd :: ve :: vf :: cs) := Reps.front hp rfl h rfl
theorem Reps.c7 {α : Type} {R : α → List Value → Prop} {ps : List α} {cs : List Value} {p : α} {va vb vc vd ve vf vg : Value} (hp : R p [va, vb, vc, vd, ve, vf, vg]) (h : Reps R 7 ps cs) : Reps R 7 (p :: ps) (va :: vb :: vc :: vd :: ve :: vf :: vg :: cs) := Reps.front hp rfl h rfl
theorem Reps.c8 {α : Type} {R : α → List Value → Prop} {ps : List α} {cs : List Value} {p : α} {va vb vc vd ve vf vg vh : Value} (hp : R p [va, vb, vc, vd, ve, vf, vg, vh]) (h : Reps R 8 ps cs) : Reps R 8 (p :: ps) (va :: vb :: vc :: vd :: ve :: vf :: vg :: vh :: cs) := Reps.front hp rfl h rfl
theorem Reps.c9 {α : Type} {R : α → List Value → Prop} {ps : List α} {cs : List Value} {p : α} {va vb vc vd ve vf vg vh vi : Value} (hp : R p [va, vb, vc, vd, ve, vf, vg, vh, vi]) (h : Reps R 9 ps cs) : Reps R 9 (p :: ps) (va :: vb :: vc :: vd :: ve :: vf :: vg :: vh :: vi :: cs) := Reps.front hp rfl h rfl
end Go.Proofs.YtllloedhlcdbjaaW.PrintWords
end
section
namespace Go.Proofs.YtllloedhlcdbjaaW.PrintLast
section
variable {P : Program} {ops : Array Oper} {Q : Exit → Act → World → Prop} {md : Region.Mode} {T : Bool × List (List Nat × List Nat)} {B : List Nat} {O : List Nat} {b : Nat → Bool} {i j n : Nat}
def Closed (T : List (List Nat × List Nat)) (O : List Nat) (b : Nat → Bool) : Prop := ∀ d r, T[d]? = some r → O.contains d = true → b d = true → ∀ n ∈ r.1, O.contains n = true → b n = true
theorem put_comm {a : Act} {s t : Tmp} {u v : Value} (h : s ≠ t) : (a.put (some s) u).put (some t) v = (a.put (some t) v).put (some s) u := by
  simp only [Act.put]
  rw [Array.setIfInBounds_comm _ _ h]
end
end Go.Proofs.YtllloedhlcdbjaaW.PrintLast
end
section
namespace Go.Proofs.YtllloedhlcdbjaaW.PrintMore
open Go.RowKit Go.Proofs.YtllloedhlcdbjaaW.PrintWords
open Go.Proofs.YtllloedhlcdbjaaW.PrintWords.Kd
open Go.Proofs.YtllloedhlcdbjaaW.PrintWords.Kd
theorem max2_int (k k' : IntKind) (x y : Int) : Builtin.max2 (.int k x) (.int k' y) = pure (.int k (if x < y then y else x)) := by simp only [Builtin.max2, gt_iff_lt]
theorem min2_int (k k' : IntKind) (x y : Int) : Builtin.min2 (.int k x) (.int k' y) = pure (.int k (if y < x then y else x)) := by simp only [Builtin.min2]
theorem max_two (ats : Array TypeId) (ty : TypeId) (a b : Value) : Builtin.max_ ats ty #[a, b] = (Builtin.max2 a b >>= fun s => pure s) := by simp only [Builtin.max_, List.foldlM_cons, List.foldlM_nil]
theorem min_two (ats : Array TypeId) (ty : TypeId) (a b : Value) : Builtin.min_ ats ty #[a, b] = (Builtin.min2 a b >>= fun s => pure s) := by simp only [Builtin.min_, List.foldlM_cons, List.foldlM_nil]
theorem max_three (ats : Array TypeId) (ty : TypeId) (a b c : Value) : Builtin.max_ ats ty #[a, b, c] = (Builtin.max2 a b >>= fun s => Builtin.max2 s c >>= fun s => pure s) := by simp only [Builtin.max_, List.foldlM_cons, List.foldlM_nil]
theorem min_three (ats : Array TypeId) (ty : TypeId) (a b c : Value) : Builtin.min_ ats ty #[a, b, c] = (Builtin.min2 a b >>= fun s => Builtin.min2 s c >>= fun s => pure s) := by simp only [Builtin.min_, List.foldlM_cons, List.foldlM_nil]
theorem max_four (ats : Array TypeId) (ty : TypeId) (a b c d : Value) : Builtin.max_ ats ty #[a, b, c, d] = (Builtin.max2 a b >>= fun s => Builtin.max2 s c >>= fun s => Builtin.max2 s d >>= fun s => pure s) := by simp only [Builtin.max_, List.foldlM_cons, List.foldlM_nil]
theorem min_four (ats : Array TypeId) (ty : TypeId) (a b c d : Value) : Builtin.min_ ats ty #[a, b, c, d] = (Builtin.min2 a b >>= fun s => Builtin.min2 s c >>= fun s => Builtin.min2 s d >>= fun s => pure s) := by simp only [Builtin.min_, List.foldlM_cons, List.foldlM_nil]
end Go.Proofs.YtllloedhlcdbjaaW.PrintMore
namespace Go.Proofs.YtllloedhlcdbjaaW.PrintWords
open Go.RowKit
section
variable {P : Program} {ops : Array Oper} {rest : List Oper} {o : Oper} {a : Act} {Q : Exit → Act → World → Prop} {W : World}
theorem gate_callee {f : FuncId} {as1 : Array Operand} {ts : Array TypeId} (_ho : o.op = .call { callee := .value (.func f), args := as1, argTypes := ts }) (h : wpList P ops Q (o :: rest) a W) : wpList P ops Q (o :: rest) a W := h
end
end Go.Proofs.YtllloedhlcdbjaaW.PrintWords
open Go.RowKit
end
section
namespace Go.Proofs.Ytllloedhlcdbjaa.G
open Go.RowKit Go.Proofs.YtllloedhlcdbjaaW.PrintWords Go.Proofs.YtllloedhlcdbjaaW.PrintLast Go.Proofs.YtllloedhlcdbjaaW.PrintMore
attribute [local go_sem] max2_int min2_int max_two min_two max_three min_three max_four min_four
set_option linter.unusedVariables false
set_option linter.unusedSimpArgs false
def errW : Option Int → Value
  | none => .nilIface
  | some c => .iface 0 (.int .i64 c)
theorem errW_none : errW none = .nilIface := rfl
theorem errW_some (c : Int) : errW (some c) = .iface 0 (.int .i64 c) := rfl
end Go.Proofs.Ytllloedhlcdbjaa.G
end
section
namespace Go.Proofs.Ytllloedhlcdbjaa.G
open Go.RowKit Go.Proofs.YtllloedhlcdbjaaW.PrintWords Go.Proofs.YtllloedhlcdbjaaW.PrintLast Go.Proofs.YtllloedhlcdbjaaW.PrintMore
attribute [local go_sem] max2_int min2_int max_two min_two max_three min_three max_four min_four
set_option linter.unusedVariables false
set_option linter.unusedSimpArgs false
def clavierref06_Own.f  : Option (List Int) := some (([1, 9, 66, 67, 1000, 1002, 1003, 1004, 1005, 1006, 1015, 2004] : List Int))
set_option maxHeartbeats 8000000 in
set_option maxRecDepth 100000 in
theorem clavierref06_Own.calls  (r : List Int) (w : World) (h : clavierref06_Own.f  = some r) :
    Calls Try.prog 17 #[] w fun e w' => ∃ v0_ : Value, e = .returned (v0_) ∧ Kd.R (Kd.int .i64) 3 w' w.heap.size (fun _ => True) v0_ r ∧ Below w.heap.size w w' := by
  have HB := Aside0.mk (Below.refl w.heap.size w)
  have H : (some (([1, 9, 66, 67, 1000, 1002, 1003, 1004, 1005, 1006, 1015, 2004] : List Int))) = some r := h
  clear h
  obtain ⟨y107, hy107⟩ : ∃ y_ : List Int, y_ = (([1, 9, 66, 67, 1000, 1002, 1003, 1004, 1005, 1006, 1015, 2004] : List Int)) := ⟨_, rfl⟩
  replace H : (some y107) = some r := by first | (rw [hy107]; with_reducible exact H) | (have H2_ := (Option.bind_some _ _).symm.trans H; rw [hy107]; with_reducible exact H2_) | (have H2_ := (Option.bind_some _ _).symm.trans H; with_reducible exact H2_) | with_reducible exact H | (rw [hy107]; exact H) | exact H
  have Ny107 := Aside0.mk hy107
  clear hy107
  obtain rfl := Option.some.inj H
  go_enter Try.func17, Try.ntmps17
  go_wp2_with (first | ((with_reducible refine gate_dst (N := 1) rfl ?_); refine Kd.R_lit (Kd.int .i64) _ 3 ?hg (N := 1) ?hd (xs := ([1, 9, 66, 67, 1000, 1002, 1003, 1004, 1005, 1006, 1015, 2004] : List Int)) (inner := [.int .i64 1, .int .i64 9, .int .i64 66, .int .i64 67, .int .i64 1000, .int .i64 1002, .int .i64 1003, .int .i64 1004, .int .i64 1005, .int .i64 1006, .int .i64 1015, .int .i64 2004]) (ok := fun _ => True) (okp := fun _ => True) ?hr ?hp (fun _ hk => hk) trivial (Below.refl _ _) (Nat.le_refl _) (by simp) ?_; (case hd => rfl); (case hg => rfl); (case hr => first | (go_simp; done) | (go_simp; rfl)); (case hp => exact (Reps.one (show Kd.M (Kd.int .i64) _ _ _ 1 [.int .i64 1] from rfl) (Reps.one (show Kd.M (Kd.int .i64) _ _ _ 9 [.int .i64 9] from rfl) (Reps.one (show Kd.M (Kd.int .i64) _ _ _ 66 [.int .i64 66] from rfl) (Reps.one (show Kd.M (Kd.int .i64) _ _ _ 67 [.int .i64 67] from rfl) (Reps.one (show Kd.M (Kd.int .i64) _ _ _ 1000 [.int .i64 1000] from rfl) (Reps.one (show Kd.M (Kd.int .i64) _ _ _ 1002 [.int .i64 1002] from rfl) (Reps.one (show Kd.M (Kd.int .i64) _ _ _ 1003 [.int .i64 1003] from rfl) (Reps.one (show Kd.M (Kd.int .i64) _ _ _ 1004 [.int .i64 1004] from rfl) (Reps.one (show Kd.M (Kd.int .i64) _ _ _ 1005 [.int .i64 1005] from rfl) (Reps.one (show Kd.M (Kd.int .i64) _ _ _ 1006 [.int .i64 1006] from rfl) (Reps.one (show Kd.M (Kd.int .i64) _ _ _ 1015 [.int .i64 1015] from rfl) (Reps.one (show Kd.M (Kd.int .i64) _ _ _ 2004 [.int .i64 2004] from rfl) (Reps.none _ _)))))))))))))); intro v108 w1 ho2 hb hg_ hnew_; clear hg_ hnew_; (first | rw [← Ny107.out] at ho2 | (simp only [Int.reduceToNat] at ho2; rw [← Ny107.out] at ho2)); have n0_ := Aside0.mk (Kd.R_lower ho2 (below_size (by repeat (first | (with_reducible first | exact HB.out | apply below_alloc | apply pw_below_drewN | apply below_drew1) | exact HB.out)))); have n1_ := Aside0.mk (below_step (by repeat (first | (with_reducible first | exact HB.out | apply below_alloc | apply pw_below_drewN | apply below_drew1) | exact HB.out)) hb); clear HB; have HO109 := n0_; have HB := n1_; clear n0_ n1_; clear hb ho2))
  go_ret
  exact ⟨_, by first | rfl | (simp [errW_none, errW_some] <;> rfl) | (simp [*, errW_none, errW_some] <;> rfl), by (with_reducible repeat (first | apply Kd.R_alloc | apply Kd.R_drewN | apply Kd.R_drew)); exact HO109.out, by repeat (first | (with_reducible first | exact HB.out | apply below_alloc | apply pw_below_drewN | apply below_drew1) | exact HB.out)⟩
end Go.Proofs.Ytllloedhlcdbjaa.G
end
section
namespace Go.Proofs.Ytllloedhlcdbjaa.G
open Go.RowKit Go.Proofs.YtllloedhlcdbjaaW.PrintWords Go.Proofs.YtllloedhlcdbjaaW.PrintLast Go.Proofs.YtllloedhlcdbjaaW.PrintMore
attribute [local go_sem] max2_int min2_int max_two min_two max_three min_three max_four min_four
set_option linter.unusedVariables false
set_option linter.unusedSimpArgs false
def clavierref07_place.l0 : Nat → Int → List Int → Int → Option (Int)
  | 0, _, _, _ => none
  | k + 1, x0, x3, x4 => if x4 < (x3.length : Int) then (if 0 ≤ x4 then (if (rd x3 x4) = x0 then (some x4) else (clavierref07_place.l0 k x0 x3 (wrap64 (x4 + 1)))) else (none)) else (some (-1))
def clavierref07_place.f (k : Nat) (a0 : Int) : Option (Int) := (clavierref06_Own.f).bind fun t110 => (clavierref07_place.l0 k a0 t110 0)
theorem clavierref07_place.mono_l : ∀ k, (∀ y0 y1 y2, LeO (clavierref07_place.l0 k y0 y1 y2) (clavierref07_place.l0 (k + 1) y0 y1 y2))
  | 0 => fun _ _ _ r h => by simp [clavierref07_place.l0] at h
  | k + 1 => by
    have ih0 := clavierref07_place.mono_l k
    · intro y0 y1 y2
      unfold clavierref07_place.l0
      repeat' first
      | (with_reducible exact ih0 _ _ _)
      | (with_reducible exact LeO.refl _)
      | (with_reducible exact LeO.none _)
      | (with_reducible refine LeO.ite ?_ ?_)
      | (with_reducible refine LeO.bind ?_ (fun _ => ?_))
      | exact ih0 _ _ _
      | exact LeO.none _
      | refine LeO.ite ?_ ?_
      | refine LeO.bind ?_ (fun _ => ?_)
theorem clavierref07_place.mono : ∀ a0 k, LeO (clavierref07_place.f k a0) (clavierref07_place.f (k + 1) a0) := by
  intro a0 k
  have ih0 := clavierref07_place.mono_l k
  unfold clavierref07_place.f
  repeat' first
      | (with_reducible exact ih0 _ _ _)
      | (with_reducible exact LeO.refl _)
      | (with_reducible exact LeO.none _)
      | (with_reducible refine LeO.ite ?_ ?_)
      | (with_reducible refine LeO.bind ?_ (fun _ => ?_))
      | exact ih0 _ _ _
      | exact LeO.none _
      | refine LeO.ite ?_ ?_
      | refine LeO.bind ?_ (fun _ => ?_)
set_option maxHeartbeats 8000000 in
set_option maxRecDepth 100000 in
theorem clavierref07_place.calls (k : Nat) (a0 : Int) (r : Int) (w : World) (h : clavierref07_place.f k a0 = some r) :
    Calls Try.prog 32 #[.int .i64 a0] w fun e w' => e = .returned (.int .i64 r) ∧ Below w.heap.size w w' := by
  have HB := Aside0.mk (Below.refl w.heap.size w)
  have H : ((clavierref06_Own.f).bind fun t110 => (clavierref07_place.l0 k a0 t110 0)) = some r := h
  clear h
  replace H := Option.bind_eq_some_iff.mp H
  obtain ⟨t110, A20, H⟩ := H
  replace H : (clavierref07_place.l0 k a0 t110 0) = some r := H
  have A2 := Aside0.mk A20
  clear A20
  have H' := Aside0.mk H
  clear H
  go_enter Try.func32, Try.ntmps32
  go_wp2_with (first | ((with_reducible refine gate_callee (f := 17) rfl ?_); refine goesL_ (some 5) rfl rfl Try.func17 (by kernel_rfl) rfl #[] rfl (by (try simp only [List.map_toArray, List.map_cons, List.map_nil]); first | done | rfl | (simp only [List.length_drop, List.length_take]; rfl)) ?_; (with_reducible refine (clavierref06_Own.calls  t110 _ A2.out).mono ?_); rintro e w3 ⟨v111, rfl, ho0, hb⟩; refine ⟨_, rfl, ?_⟩; have n0_ := Aside0.mk (Kd.R_lower ho0 (below_size (by repeat (first | (with_reducible first | exact HB.out | apply below_alloc | apply pw_below_drewN | apply below_drew1) | exact HB.out)))); have n1_ := Aside0.mk (below_step (by repeat (first | (with_reducible first | exact HB.out | apply below_alloc | apply pw_below_drewN | apply below_drew1) | exact HB.out)) hb); clear HB; have HO112 := n0_; have HB := n1_; clear n0_ n1_; (try clear hb); (try clear hb2); (try clear hk); (try clear hi); (try clear ho0)))
  go_loopg [4] k (fun kq v4 w' => ∃ (x4_1 : Int), v4 = .int .i64 x4_1 ∧ Aside0 (clavierref07_place.l0 kq a0 t110 x4_1 = some r) ∧ Aside0 (kq ≤ k) ∧ Aside0 (Kd.R (Kd.int .i64) 3 w' w.heap.size (fun _ => True) v111 t110) ∧ Aside0 (Below w.heap.size w w'))
  case atStart => exact ⟨(0), (by first | rfl | (simp; done) | (simp [*]; done)), H', ⟨Nat.le_refl _⟩, ⟨by (with_reducible repeat (first | apply Kd.R_alloc | apply Kd.R_drewN | apply Kd.R_drew)); exact HO112.out⟩, ⟨by repeat (first | (with_reducible first | exact HB.out | apply below_alloc | apply pw_below_drewN | apply below_drew1) | exact HB.out)⟩⟩
  case round =>
    clear H'
    try clear c1
    try clear p2
    try clear c3
    obtain ⟨x4_1, rfl, HA, HK1, HO_3, HB⟩ := hrel
    cases gk with
    | zero => exact absurd HA.out (by simp [clavierref07_place.l0])
    | succ k1 =>
      have H := HA.out
      clear HA
      simp only [clavierref07_place.l0] at H
      by_cases c4 : x4_1 < (t110.length : Int)
      · rw [if_pos c4] at H
        have c4b0 : decide (x4_1 < (t110.length : Int)) = true := decide_eq_true c4
        clear c4
        by_cases c5 : 0 ≤ x4_1
        · rw [if_pos c5] at H
          have c5b0 : decide (0 ≤ x4_1) = true := decide_eq_true c5
          clear c5
          by_cases c6 : (rd t110 x4_1) = a0
          · rw [if_pos c6] at H
            have c6b0 : ((rd t110 x4_1) == a0) = true := beq_iff_eq.mpr c6
            have c6b1 : ((rd t110 x4_1) != a0) = false := bne_eq_false_iff_eq.mpr c6
            clear c6
            obtain rfl := Option.some.inj H
            obtain ⟨Ao7, co7, eo7⟩ := Kd.R_slice HO_3.out
            subst eo7
            have p113 : 0 ≤ (x4_1 : Int) := of_decide_eq_true (by first | (with_reducible assumption) | assumption)
            have q113 : x4_1 < (t110.length : Int) := of_decide_eq_true (by first | (with_reducible assumption) | assumption)
            obtain ⟨ad113, e113, hx113_0⟩ := Kd.at_int (Kd.R_reads' HO_3.out).2.2 x4_1 p113 q113
            cases e113
            replace p113 := eq_true p113
            replace q113 := eq_true q113
            go_wp2
            go_ret
            exact ⟨by first | rfl | (simp [errW_none, errW_some] <;> rfl) | (simp [*, errW_none, errW_some] <;> rfl), by repeat (first | (with_reducible first | exact HB.out | apply below_alloc | apply pw_below_drewN | apply below_drew1) | exact HB.out)⟩
          · rw [if_neg c6] at H
            have c6b0 : ((rd t110 x4_1) == a0) = false := beq_eq_false_iff_ne.mpr c6
            have c6b1 : ((rd t110 x4_1) != a0) = true := bne_iff_ne.mpr c6
            have H' := Aside0.mk H
            clear H
            obtain ⟨Ao8, co8, eo8⟩ := Kd.R_slice HO_3.out
            subst eo8
            have p113 : 0 ≤ (x4_1 : Int) := of_decide_eq_true (by first | (with_reducible assumption) | assumption)
            have q113 : x4_1 < (t110.length : Int) := of_decide_eq_true (by first | (with_reducible assumption) | assumption)
            obtain ⟨ad113, e113, hx113_0⟩ := Kd.at_int (Kd.R_reads' HO_3.out).2.2 x4_1 p113 q113
            cases e113
            replace p113 := eq_true p113
            replace q113 := eq_true q113
            go_wp2
            go_roundg k1
            case measure => have := HK1.out; omega
            case rel => exact ⟨(wrap64 (x4_1 + 1)), (by first | rfl | (simp; done) | (simp [*]; done)), H', ⟨by have := HK1.out; omega⟩, ⟨by (with_reducible repeat (first | apply Kd.R_alloc | apply Kd.R_drewN | apply Kd.R_drew)); exact HO_3.out⟩, ⟨by repeat (first | (with_reducible first | exact HB.out | apply below_alloc | apply pw_below_drewN | apply below_drew1) | exact HB.out)⟩⟩
        · rw [if_neg c5] at H
          exact absurd H (by simp)
      · rw [if_neg c4] at H
        have c4b0 : decide (x4_1 < (t110.length : Int)) = false := decide_eq_false c4
        clear c4
        obtain rfl := Option.some.inj H
        obtain ⟨Ao9, co9, eo9⟩ := Kd.R_slice HO_3.out
        subst eo9
        go_wp2
        go_ret
        exact ⟨by first | rfl | (simp [errW_none, errW_some] <;> rfl) | (simp [*, errW_none, errW_some] <;> rfl), by repeat (first | (with_reducible first | exact HB.out | apply below_alloc | apply pw_below_drewN | apply below_drew1) | exact HB.out)⟩
end Go.Proofs.Ytllloedhlcdbjaa.G
end
section
namespace Go.Proofs.Ytllloedhlcdbjaa
set_option linter.unusedVariables false
set_option linter.unusedSimpArgs false
open Go.RowKit Kit Go.Proofs.YtllloedhlcdbjaaW.PrintWords
theorem place_is (n : Int) : G.clavierref07_place.f 20 n = some (idxI ownL n) := by
  by_cases h : n ∈ ownL
  · rcases mem_ownL.1 h with rfl | rfl | rfl | rfl | rfl | rfl | rfl | rfl | rfl | rfl | rfl | rfl <;> simp [G.clavierref07_place.f, G.clavierref06_Own.f, G.clavierref07_place.l0, rd, wrap64, idxI, ownL]
  · have hi : idxI ownL n = -1 := by
      have h1 := (idxI_range ownL n).1
      have h2 : ¬ 0 ≤ idxI ownL n := fun e => h ((ownL_idx n).1 e)
      omega
    rw [hi]
    rw [mem_ownL] at h
    simp only [not_or] at h
    obtain ⟨h1, h2, h3, h4, h5, h6, h7, h8, h9, h10, h11, h12⟩ := h
    have ne : ∀ a : Int, ¬ n = a → ¬ a = n := fun a h e => h e.symm
    simp [G.clavierref07_place.f, G.clavierref06_Own.f, G.clavierref07_place.l0, rd, wrap64, ne _ h1, ne _ h2, ne _ h3, ne _ h4, ne _ h5, ne _ h6, ne _ h7, ne _ h8, ne _ h9, ne _ h10, ne _ h11, ne _ h12]
theorem place_calls (n v : Int) (h : idxI ownL n = v) (w : World) : Calls Try.prog 32 #[.int .i64 n] w fun e w' => e = .returned (.int .i64 v) ∧ Below w.heap.size w w' :=
  (G.clavierref07_place.calls 20 n v w (by rw [← h]; exact place_is n)).mono fun e w' h => ⟨h.1, by first | exact h.2 | exact h.2.below⟩
theorem rget_of (m : Md) (p : Bool) (n : Int) (r : Int) (h : getM m p n = r) (w : World) :
    Calls Try.prog 33 #[m.v, .bool p, .int .i64 n] w fun e w' => e = .returned (.int .i64 r) ∧ Below w.heap.size w w' := by
  have := rget_calls m p n w; rw [h] at this; exact this
theorem size12' {R : List Int} (h : R.length = 12) : ∀ w, (sizeOf 38).run Try.prog w = .ok (u8s R).length w := by rw [len12 h]; exact Try.sizeOf38
namespace Kit
section
variable {P : Program} {ops : Array Oper} {R : Act → Prop} {a : Act} {w W0 : World} {rest : List Oper} {o : Oper} {bs : Res} {C : World → Prop}
theorem qg_index {d ty ps af gg} {t : TypeId} {x y : Operand} (h : wpQuiet P ops C R (Oper.mk d (.indexAddr t x y) ty ps af gg :: rest) a) : wpQuiet P ops C R (Oper.mk d (.indexAddr t x y) ty ps af gg :: rest) a := h
theorem q_read {x : Operand} {T : TypeId} {ad : Addr} {v : Value} (ho : o.op = .load T x) (hw : Region.wanted o (yielded ops a.tmps) = true) (hx : a.eval x = .pointer (some ad)) (hc : W0.cell? ad = some v)
    (hagg : ∀ w, (isAgg T).run P w = .ok false w) (h : wpQuiet P ops (MineC W0 bs) R rest (a.put o.dst v)) : wpQuiet P ops (MineC W0 bs) R (o :: rest) a :=
  q_mine hw (fun w HO => by
    have hc' := (HO.below.cell (World.block_lt_of_cell? W0 _ hc)).trans hc
    have hr : (loadVar T ad).run P w = .ok v w := by simp [loadVar, Sem.run_bind, hagg, load, Sem.run, hc']
    simp only [execOp, ho, hx, Instr.loadAt, Instr.sureAddr, Sem.run_bind, Sem.run_pure, Result.andThen_ok, hr]) h
end
end Kit
theorem nums_step {l : List Int} {k : Nat} (hk : k < l.length) {x : Int} (hx : l.getD k 0 = x) : (∃ j : Fin 12, idxI ownL x = (j.val : Int) ∧ pairsL (l.take (k + 1)) = pairsL (l.take k) ++ [(j, x)]) ∨ (¬ 0 ≤ idxI ownL x ∧ pairsL (l.take (k + 1)) = pairsL (l.take k)) := by
  by_cases h : 0 ≤ idxI ownL x
  · obtain ⟨j, h1, h2⟩ := idx_fin h
    exact .inl ⟨j, h1, pairs_in hk hx h2⟩
  · exact .inr ⟨h, pairs_out hk hx (idx_none h)⟩
theorem cell12 {R : List Int} (h : R.length = 12) {k : Nat} (hk : k < 12) {z : Int} (hz : R.getD k 0 = z) : (u8s R)[k]? = some (.int .u8 z) := by
  rw [← hz]
  simp [List.getD, show k < R.length by omega]
attribute [local irreducible] wpList Calls wpQuiet
set_option maxRecDepth 100000 in
set_option maxHeartbeats 8000000 in
theorem refSave_calls (s : List Int) (hs : s.length = 12) (m : Md) (A : Option Addr) (c : Nat) (l : List Int) (hn : l.length ≤ 1000000) (w : World) (hC : (Kd.int .i64).C w A l.length l) :
    Calls Try.prog 21 #[.agg (u8s s).toArray, m.v, .slice A l.length c] w fun e w' => e = .returned (.agg (u8s (saveL m s l)).toArray) ∧ Below w.heap.size w w' := by
  have HO := Mine.start w
  have HS := Lib.hid hs
  have HC := Lib.hid hC
  have HLN := Lib.hid hn
  clear hs hC hn
  go_enter Try.func21, Try.ntmps21
  go_wp2_with (first
      | ((with_reducible refine gate ?_); (first
      | ((with_reducible refine gateAt (N := 4) rfl ?_); refine own_box (T := 23) HO rfl rfl rfl ?_; clear HO; intro gM wN hggM HO; (simp only [List.nil_append, List.cons_append] at HO); (try simp only [Act.put, List.setIfInBounds_toArray, List.set_cons_zero, List.set_cons_succ]))
      | ((with_reducible refine gateAt (N := 3) rfl ?_); refine own_box (T := 38) HO rfl rfl (cs := u8s s) rfl ?_; clear HO; intro gS wN hgN HO; (simp only [List.nil_append, List.cons_append] at HO); (try simp only [Act.put, List.setIfInBounds_toArray, List.set_cons_zero, List.set_cons_succ]))
      | ((with_reducible refine gateAt (N := 6) rfl ?_); refine own_alloc (T := 38) HO rfl rfl Try.zeroValue38 rfl ?_; clear HO; intro gR wN hggR HO; (simp only [List.nil_append, List.cons_append] at HO); (try simp only [Act.put, List.setIfInBounds_toArray, List.set_cons_zero, List.set_cons_succ]))
      | ((refine own_box HO rfl rfl rfl ?_); clear HO; intro gN wN hgN HO; (simp only [List.nil_append, List.cons_append] at HO); (try simp only [Act.put, List.setIfInBounds_toArray, List.set_cons_zero, List.set_cons_succ]))
      | ((refine own_load (T := 23) HO rfl rfl rfl (by first | exact .head _ | exact .tail _ (.head _) | exact .tail _ (.tail _ (.head _)) | exact .tail _ (.tail _ (.tail _ (.head _))) | exact .tail _ (.tail _ (.tail _ (.tail _ (.head _)))) | exact .tail _ (.tail _ (.tail _ (.tail _ (.tail _ (.head _)))))) Try.isAgg23 Try.sizeOf23 (by repeat constructor) ?_); (try simp only [Act.put, List.setIfInBounds_toArray, List.set_cons_zero, List.set_cons_succ]))
      | ((refine own_store (T := 23) HO rfl rfl rfl rfl (by first | exact .here | exact .there (.here) | exact .there (.there (.here)) | exact .there (.there (.there (.here))) | exact .there (.there (.there (.there (.here)))) | exact .there (.there (.there (.there (.there (.here)))))) Try.sizeOf23 (by repeat constructor) rfl ?_); clear HO; intro wN HO; (try simp only [Act.put, List.setIfInBounds_toArray, List.set_cons_zero, List.set_cons_succ])))))
  go_loopw [7] (fun i wr => ∃ k : Nat, k ≤ l.length ∧ i = .int .i64 (k : Int) ∧ Mine w wr [(gS, IsCells (u8s ((pairsL (l.take k)).foldl (stepS m) s)) 38), (gM, IsCells [.bool m.cursor, .bool m.keypad, .bool m.back, .bool m.focus, .bool m.paste, .bool m.lock, .bool m.line, .int .i64 m.mouse, .int .i64 m.coding, .int .i64 m.other] 23), (gR, IsCells [.int .u8 0, .int .u8 0, .int .u8 0, .int .u8 0, .int .u8 0, .int .u8 0, .int .u8 0, .int .u8 0, .int .u8 0, .int .u8 0, .int .u8 0, .int .u8 0] 38)]) (fun i _ => l.length - (intOf i).toNat)
  case atStart => exact ⟨0, Nat.zero_le _, rfl, HO⟩
  case round =>
    obtain ⟨k, hk, rfl, HOn⟩ := hrel
    clear HO
    have HO := HOn
    clear HOn
    by_cases hlt : k < l.length
    · skip
      have hkd : decide ((k : Int) < (l.length : Int)) = true := decide_eq_true (by omega)
      have hkd2 : decide (k < l.length) = true := decide_eq_true hlt
      have hki : (k : Int) < (l.length : Int) := by omega
      obtain ⟨ad, e, hcell⟩ := Kd.at_int HC.out (k : Int) (by omega) hki
      subst e
      rw [Int.toNat_natCast, rd_int' l k hlt] at hcell
      obtain ⟨x, hx⟩ : ∃ x, l.getD k 0 = x := ⟨_, rfl⟩
      rw [hx] at hcell
      have hcw := (HO.below.cell (World.block_lt_of_cell? w _ hcell)).trans hcell
      have HCELL := Lib.hid hcell
      have HLT := Lib.hid hlt
      obtain ⟨S, hS⟩ : ∃ S, (pairsL (l.take k)).foldl (stepS m) s = S := ⟨_, rfl⟩
      have hS12 : S.length = 12 := by rw [← hS, foldS_len, HS.out]
      rw [hS] at HO
      rcases nums_step hlt hx with ⟨⟨j, hj⟩, hv, hp⟩ | ⟨hv, hp⟩
      · have HK := Keep.refl gS wr
        have hj0 : (j : Int) < 12 := by omega
        have hd : decide ((j : Int) ≥ 0) = true := decide_eq_true (by omega)
        have hd2 : decide (0 ≤ (j : Int)) = true := hd
        have hl1 : j < (u8s S).length := by simp [hS12, hj]
        have HL1 := Lib.hid hl1
        have HL2 := Lib.hid (fun v => by simpa using hl1 : ∀ v, j < ((u8s S).set j v).length)
        have hst : ∀ g : Int, getM m true x = g → u8s (List.foldl (stepS m) s (pairsL (l.take (k + 1)))) = (u8s S).set j (.int .u8 (if g = 1 then 1 else 2)) := fun g e => by
          rw [hp, List.foldl_append, hS]
          simp [stepS, e, List.map_set]
        have HV := Lib.hid (hv : idxI ownL x = (j : Int))
        obtain ⟨g, hg⟩ : ∃ g, getM m true x = g := ⟨_, rfl⟩
        have hst := hst g hg
        have HG := Lib.hid hg
        clear hg hl1 hS hS12 hp hv hx hk hlt hcell
        go_wp2_with (first | (go_at_call 32; refine (place_calls x _ HV.out _).mono ?_; rintro eN wN ⟨rfl, hbN⟩; have HON := HO.call hbN; have HKN := HK.below hbN; have hcw2 := (hbN.cell (World.block_lt_of_cell? _ _ hcw)).trans hcw; clear HO HK hbN hcw; have HO := HON; have HK := HKN; have hcw := hcw2; clear HON HKN hcw2) | ((with_reducible refine gate ?_); refine own_put1 (g := gS) HO HK rfl rfl rfl (by first | exact .const | exact .tmp rfl) rfl .here (by first | exact HL1.out | exact HL2.out _) Try.sizeOf5 rfl ?_; clear HO HK; intro wN HO HK; (try simp only [Act.put, List.setIfInBounds_toArray, List.set_cons_zero, List.set_cons_succ])))
        (refine region_quiet HO (by kernel_rfl) (by kernel_rfl) ?_); repeat (first
              | (go_big_quiet_skip)
              | ((with_reducible refine qg_index ?_); (refine q_val rfl (fun w => by simp only [execOp]; go_simp; first | done | rfl | (simp [hki]; done) | (simp [hki]; rfl)) ?_); (try simp only [Act.put, List.setIfInBounds_toArray, List.set_cons_zero, List.set_cons_succ]))
              | ((with_reducible refine qg_load ?_); (refine q_read (T := 3) rfl rfl rfl HCELL.out Try.isAgg3 ?_); (try simp only [Act.put, List.setIfInBounds_toArray, List.set_cons_zero, List.set_cons_succ]))
              | ((with_reducible refine qg_move ?_); (refine q_move rfl rfl (by first | exact .const | exact .tmp rfl | exact .func) ?_); (try simp only [Act.put, List.setIfInBounds_toArray, List.set_cons_zero, List.set_cons_succ]))
              | ((with_reducible refine qg_assign ?_); (refine q_assign rfl rfl (by first | exact .const | exact .tmp rfl | exact .func) ?_); (try simp only [Act.put, List.setIfInBounds_toArray, List.set_cons_zero, List.set_cons_succ]))
              | ((with_reducible refine qg_pick ?_); (refine q_pick_true rfl rfl rfl (by first | exact .const | exact .tmp rfl | exact .func) ?_); (try simp only [Act.put, List.setIfInBounds_toArray, List.set_cons_zero, List.set_cons_succ]))
              | ((with_reducible refine qg_pick ?_); (refine q_pick_false rfl rfl rfl (by first | exact .const | exact .tmp rfl | exact .func) ?_); (try simp only [Act.put, List.setIfInBounds_toArray, List.set_cons_zero, List.set_cons_succ]))
              | ((with_reducible refine qg_load ?_); (refine q_load (T := 23) rfl rfl rfl (by first | exact .head _ | exact .tail _ (.head _) | exact .tail _ (.tail _ (.head _)) | exact .tail _ (.tail _ (.tail _ (.head _))) | exact .tail _ (.tail _ (.tail _ (.tail _ (.head _)))) | exact .tail _ (.tail _ (.tail _ (.tail _ (.tail _ (.head _)))))) Try.isAgg23 Try.sizeOf23 (by repeat constructor) ?_); (try simp only [Act.put, List.setIfInBounds_toArray, List.set_cons_zero, List.set_cons_succ]))
              | ((with_reducible refine qg_call ?_); (refine q_call (f := 33) rfl rfl Try.call33 rfl (fun wN HON => (rget_of m true x g HG.out wN)) ?_); (try simp only [Act.put, List.setIfInBounds_toArray, List.set_cons_zero, List.set_cons_succ]))
              | ((refine q_val rfl (fun w => by simp only [execOp]; first | (go_simp; done) | (go_simp; rfl)) ?_); (try simp only [Act.put, List.setIfInBounds_toArray, List.set_cons_zero, List.set_cons_succ])))
        refine wpQuiet_nil ?_
        intro wZ HOz
        clear HO HK
        have HO := HOz
        have HK := Keep.refl gS wZ
        clear HOz
        by_cases h1 : g = 1
        · have H3 := Lib.hid (hst.trans (by rw [if_pos h1]))
          clear hst
          subst h1
          go_wp2_with ((with_reducible refine gate ?_); refine own_put1 (g := gS) HO HK rfl rfl rfl (by first | exact .const | exact .tmp rfl) rfl .here (by first | exact HL1.out | exact HL2.out _) Try.sizeOf5 rfl ?_; clear HO HK; intro wN HO HK; (try simp only [Act.put, List.setIfInBounds_toArray, List.set_cons_zero, List.set_cons_succ]))
          go_roundw
          case rel =>
            refine ⟨k + 1, by have := HLT.out; omega, by first | exact rfl | (refine congrArg (Value.int .i64) ?_; have := HLT.out; have := HLN.out; unfold wrap64; omega), ?_⟩
            rw [H3.out]
            rw [List.set_set] at HO
            exact HO
          case measure => first | exact meas_len l.length k HLT.out | exact meas_wrap l.length k HLT.out (by have := HLN.out; omega)
        · have b1 : (g == 1) = false := beq_eq_false_iff_ne.2 h1
          have H3 := Lib.hid (hst.trans (by rw [if_neg h1]))
          clear hst h1
          go_wp2
          go_roundw
          case rel =>
            refine ⟨k + 1, by have := HLT.out; omega, by first | exact rfl | (refine congrArg (Value.int .i64) ?_; have := HLT.out; have := HLN.out; unfold wrap64; omega), ?_⟩
            rw [H3.out]
            exact HO
          case measure => first | exact meas_len l.length k HLT.out | exact meas_wrap l.length k HLT.out (by have := HLN.out; omega)
      · have HK := Keep.refl gS wr
        obtain ⟨v, hve⟩ : ∃ v, idxI ownL x = v := ⟨_, rfl⟩
        rw [hve] at hv
        have HV := Lib.hid hve
        have hd : decide (v ≥ 0) = false := decide_eq_false (by omega)
        have hd2 : decide (0 ≤ v) = false := hd
        have H3 := Lib.hid (show u8s (List.foldl (stepS m) s (pairsL (l.take (k + 1)))) = u8s S by rw [hp, hS])
        clear hS hS12 hp hv hve hx hk hlt hcell
        go_wp2_with (go_at_call 32; refine (place_calls x _ HV.out _).mono ?_; rintro eN wN ⟨rfl, hbN⟩; have HON := HO.call hbN; have HKN := HK.below hbN; have hcw2 := (hbN.cell (World.block_lt_of_cell? _ _ hcw)).trans hcw; clear HO HK hbN hcw; have HO := HON; have HK := HKN; have hcw := hcw2; clear HON HKN hcw2)
        go_roundw
        case rel =>
          refine ⟨k + 1, by have := HLT.out; omega, by first | exact rfl | (refine congrArg (Value.int .i64) ?_; have := HLT.out; have := HLN.out; unfold wrap64; omega), ?_⟩
          rw [H3.out]
          exact HO
        case measure => first | exact meas_len l.length k HLT.out | exact meas_wrap l.length k HLT.out (by have := HLN.out; omega)
    · obtain rfl : k = l.length := by omega
      have hkd : decide ((l.length : Int) < (l.length : Int)) = false := decide_eq_false (by omega)
      rw [List.take_of_length_le (Nat.le_refl _)] at HO
      obtain ⟨R, hR⟩ : ∃ R, (pairsL l).foldl (stepS m) s = R := ⟨_, rfl⟩
      have hR12 : R.length = 12 := by rw [← hR, foldS_len, HS.out]
      rw [hR] at HO
      have HSV := Lib.hid (show saveL m s l = R from hR)
      have HR12 := Lib.hid hR12
      clear hR12 hR hlt hk
      go_wp2_with (first | ((with_reducible refine gate ?_); refine own_load (T := 38) (n := 12) (vs := u8s R) HO rfl rfl rfl (.head _) Try.isAgg38 Try.sizeOf38 (slc12 HR12.out) ?_; (try simp only [Act.put, List.setIfInBounds_toArray, List.set_cons_zero, List.set_cons_succ])) | ((with_reducible refine gate ?_); refine own_store (T := 38) (vs := u8s R) HO rfl rfl rfl rfl (.there (.there .here)) (size12' HR12.out) (by exact PutAt.all _ _ (len12 HR12.out)) (one12 R) ?_; clear HO; intro wN HO; (try simp only [Act.put, List.setIfInBounds_toArray, List.set_cons_zero, List.set_cons_succ])))
      exact bodyPost_ret (own_results1 HO Try.results21 rfl (.tail _ (.tail _ (.head _))) Try.isAgg38 Try.sizeOf38 (slc12 HR12.out)) rfl ⟨by rw [HSV.out], HO.below⟩
set_option maxRecDepth 100000 in
set_option maxHeartbeats 8000000 in
theorem refRestore_calls (s : List Int) (hs : s.length = 12) (m : Md) (A : Option Addr) (c : Nat) (l : List Int) (hn : l.length ≤ 1000000) (w : World) (hC : (Kd.int .i64).C w A l.length l) :
    Calls Try.prog 23 #[.agg (u8s s).toArray, m.v, .slice A l.length c] w fun e w' => e = .returned (restL s m l).v ∧ Below w.heap.size w w' := by
  have HO := Mine.start w
  have HS := Lib.hid hs
  have HC := Lib.hid hC
  have HLN := Lib.hid hn
  clear hs hC hn
  go_enter Try.func23, Try.ntmps23
  go_wp2_with (first
      | ((with_reducible refine gate ?_); (first
      | ((with_reducible refine gateAt (N := 4) rfl ?_); refine own_box (T := 23) HO rfl rfl rfl ?_; clear HO; intro gM wN hggM HO; (simp only [List.nil_append, List.cons_append] at HO); (try simp only [Act.put, List.setIfInBounds_toArray, List.set_cons_zero, List.set_cons_succ]))
      | ((with_reducible refine gateAt (N := 3) rfl ?_); refine own_box (T := 38) HO rfl rfl (cs := u8s s) rfl ?_; clear HO; intro gS wN hgN HO; (simp only [List.nil_append, List.cons_append] at HO); (try simp only [Act.put, List.setIfInBounds_toArray, List.set_cons_zero, List.set_cons_succ]))
      | ((with_reducible refine gateAt (N := 6) rfl ?_); refine own_alloc (T := 23) HO rfl rfl Try.zeroValue23 rfl ?_; clear HO; intro gR wN hggR HO; (simp only [List.nil_append, List.cons_append] at HO); (try simp only [Act.put, List.setIfInBounds_toArray, List.set_cons_zero, List.set_cons_succ]))
      | ((refine own_box HO rfl rfl rfl ?_); clear HO; intro gN wN hgN HO; (simp only [List.nil_append, List.cons_append] at HO); (try simp only [Act.put, List.setIfInBounds_toArray, List.set_cons_zero, List.set_cons_succ]))
      | ((refine own_load (T := 23) HO rfl rfl rfl (by first | exact .head _ | exact .tail _ (.head _) | exact .tail _ (.tail _ (.head _)) | exact .tail _ (.tail _ (.tail _ (.head _))) | exact .tail _ (.tail _ (.tail _ (.tail _ (.head _)))) | exact .tail _ (.tail _ (.tail _ (.tail _ (.tail _ (.head _)))))) Try.isAgg23 Try.sizeOf23 (by repeat constructor) ?_); (try simp only [Act.put, List.setIfInBounds_toArray, List.set_cons_zero, List.set_cons_succ]))
      | ((refine own_store (T := 23) HO rfl rfl rfl rfl (by first | exact .here | exact .there (.here) | exact .there (.there (.here)) | exact .there (.there (.there (.here))) | exact .there (.there (.there (.there (.here)))) | exact .there (.there (.there (.there (.there (.here)))))) Try.sizeOf23 (by repeat constructor) rfl ?_); clear HO; intro wN HO; (try simp only [Act.put, List.setIfInBounds_toArray, List.set_cons_zero, List.set_cons_succ])))))
  go_loopw [7] (fun i wr => ∃ k : Nat, k ≤ l.length ∧ i = .int .i64 (k : Int) ∧ Mine w wr [(gS, IsCells (u8s s) 38), (gM, IsCells [.bool ((pairsL (l.take k)).foldl (stepR s) m).cursor, .bool ((pairsL (l.take k)).foldl (stepR s) m).keypad, .bool ((pairsL (l.take k)).foldl (stepR s) m).back, .bool ((pairsL (l.take k)).foldl (stepR s) m).focus, .bool ((pairsL (l.take k)).foldl (stepR s) m).paste, .bool ((pairsL (l.take k)).foldl (stepR s) m).lock, .bool ((pairsL (l.take k)).foldl (stepR s) m).line, .int .i64 ((pairsL (l.take k)).foldl (stepR s) m).mouse, .int .i64 ((pairsL (l.take k)).foldl (stepR s) m).coding, .int .i64 ((pairsL (l.take k)).foldl (stepR s) m).other] 23), (gR, IsCells [.bool false, .bool false, .bool false, .bool false, .bool false, .bool false, .bool false, .int .i64 0, .int .i64 0, .int .i64 0] 23)]) (fun i _ => l.length - (intOf i).toNat)
  case atStart => exact ⟨0, Nat.zero_le _, rfl, HO⟩
  case round =>
    obtain ⟨k, hk, rfl, HOn⟩ := hrel
    clear HO
    have HO := HOn
    clear HOn
    by_cases hlt : k < l.length
    · skip
      have hkd : decide ((k : Int) < (l.length : Int)) = true := decide_eq_true (by omega)
      have hkd2 : decide (k < l.length) = true := decide_eq_true hlt
      have hki : (k : Int) < (l.length : Int) := by omega
      obtain ⟨ad, e, hcell⟩ := Kd.at_int HC.out (k : Int) (by omega) hki
      subst e
      rw [Int.toNat_natCast, rd_int' l k hlt] at hcell
      obtain ⟨x, hx⟩ : ∃ x, l.getD k 0 = x := ⟨_, rfl⟩
      rw [hx] at hcell
      have hcw := (HO.below.cell (World.block_lt_of_cell? w _ hcell)).trans hcell
      have HCELL := Lib.hid hcell
      have HLT := Lib.hid hlt
      obtain ⟨F, hF⟩ : ∃ F, (pairsL (l.take k)).foldl (stepR s) m = F := ⟨_, rfl⟩
      rw [hF] at HO
      rcases nums_step hlt hx with ⟨⟨j, hj⟩, hv, hp⟩ | ⟨hv, hp⟩
      · have hj0 : (j : Int) < 12 := by omega
        have hd : decide ((j : Int) ≥ 0) = true := decide_eq_true (by omega)
        have hd2 : decide (0 ≤ (j : Int)) = true := hd
        obtain ⟨b, hb⟩ : ∃ b, s.getD j 0 = b := ⟨_, rfl⟩
        have HCB := Lib.hid (cell12 HS.out hj hb)
        have hst : (pairsL (l.take (k + 1))).foldl (stepR s) m = if b = 1 ∨ b = 2 then (setM F true x (b == 1)).1 else F := by
          rw [hp, List.foldl_append, hF]
          show stepR s F (⟨j, hj⟩, x) = _
          unfold stepR
          simp only [hb]
        have HV := Lib.hid (hv : idxI ownL x = (j : Int))
        have HST := Lib.hid hst
        clear hst hb hF hp hv hx hk hlt hcell
        have h3 : b = 1 ∨ (b ≠ 1 ∧ b = 2) ∨ (b ≠ 1 ∧ b ≠ 2) := by omega
        rcases h3 with h1 | ⟨h1, h2⟩ | ⟨h1, h2⟩
        · subst h1
          obtain ⟨⟨r, ok⟩, hr⟩ : ∃ p, setM F true x true = p := ⟨_, rfl⟩
          have H3 : Hid ((pairsL (l.take (k + 1))).foldl (stepR s) m = r) := Lib.hid (HST.out.trans (by rw [if_pos (by decide)]; show (setM F true x true).1 = r; rw [hr]))
          have HR2 := Lib.hid hr
          clear HST hr
          go_wp2_with (first | (go_at_call 32; refine (place_calls x _ HV.out _).mono ?_; rintro eN wN ⟨rfl, hbN⟩; have HON := HO.call hbN; have hcw2 := (hbN.cell (World.block_lt_of_cell? _ _ hcw)).trans hcw; clear HO hbN hcw; have HO := HON; have hcw := hcw2; clear HON hcw2) | ((with_reducible refine gate ?_); refine own_load1 (T := 5) HO rfl rfl rfl (.head _) Try.isAgg5 HCB.out ?_; (try simp only [Act.put, List.setIfInBounds_toArray, List.set_cons_zero, List.set_cons_succ])))
          obtain ⟨wB, hwB⟩ : ∃ wB, wN = wB := ⟨_, rfl⟩
          rw [hwB] at HO ⊢
          clear hwB
          have hlt2 : ∀ q ∈ [(gS, IsCells (u8s s) 38), (gM, IsCells [.bool F.cursor, .bool F.keypad, .bool F.back, .bool F.focus, .bool F.paste, .bool F.lock, .bool F.line, .int .i64 F.mouse, .int .i64 F.coding, .int .i64 F.other] 23), (gR, IsCells [.bool false, .bool false, .bool false, .bool false, .bool false, .bool false, .bool false, .int .i64 0, .int .i64 0, .int .i64 0] 23)], q.1 < _ := fun q hq => HO.lt hq
          have hW0 := HO.below.size
          have HL := Lib.hid hlt2
          have HW0 := Lib.hid hW0
          clear hlt2 hW0
          refine region_put 14 _ ([fIs (F.v), fIs (.slice (some ad) l.length c), fIs (.int .i64 (k : Int)), fIs (.pointer (some (ad.add k))), fIs (.int .i64 x), fIs (.int .i64 (j : Int)), fIs (.pointer (some ⟨gS, j, none⟩)), fIs (.int .u8 1), fIs (.bool true), fIs (.tuple #[r.v, .bool ok]), fIs (.tuple #[r.v, .bool ok]), fIs (r.v), fIs (.bool ok)] ++ fVar wB.heap.size 23 [.bool false, .bool false, .bool false, .bool false, .bool false, .bool false, .bool false, .int .i64 0, .int .i64 0, .int .i64 0] :: [fAny, fIs (.bool ok)]) ([fIs (F.v), fIs (.slice (some ad) l.length c), fIs (.int .i64 (k : Int)), fIs (.pointer (some (ad.add k))), fIs (.int .i64 x), fIs (.int .i64 (j : Int)), fIs (.pointer (some ⟨gS, j, none⟩)), fIs (.int .u8 1), fIs (.bool true), fIs (.tuple #[r.v, .bool ok]), fIs (.tuple #[r.v, .bool ok]), fIs (r.v), fIs (.bool ok)] ++ fVar wB.heap.size 23 [.bool r.cursor, .bool r.keypad, .bool r.back, .bool r.focus, .bool r.paste, .bool r.lock, .bool r.line, .int .i64 r.mouse, .int .i64 r.coding, .int .i64 r.other] :: [fAny, fIs (.bool ok)]) HO (by kernel_rfl) (by kernel_rfl) rfl (stays_cons (Stays.fIs _) (stays_cons (Stays.fIs _) (stays_cons (Stays.fIs _) (stays_cons (Stays.fIs _) (stays_cons (Stays.fIs _) (stays_cons (Stays.fIs _) (stays_cons (Stays.fIs _) (stays_cons (Stays.fIs _) (stays_cons (Stays.fIs _) (stays_cons (Stays.fIs _) (stays_cons (Stays.fIs _) (stays_cons (Stays.fIs _) (stays_cons (Stays.fIs _) (stays_cons (Stays.fVar _ _ _) (stays_cons (Stays.fAny) (stays_cons (Stays.fIs _) stays_nil)))))))))))))))) (stays_cons (Stays.fIs _) (stays_cons (Stays.fIs _) (stays_cons (Stays.fIs _) (stays_cons (Stays.fIs _) (stays_cons (Stays.fIs _) (stays_cons (Stays.fIs _) (stays_cons (Stays.fIs _) (stays_cons (Stays.fIs _) (stays_cons (Stays.fIs _) (stays_cons (Stays.fIs _) (stays_cons (Stays.fIs _) (stays_cons (Stays.fIs _) (stays_cons (Stays.fIs _) (stays_cons (Stays.fVar _ _ _) (stays_cons (Stays.fAny) (stays_cons (Stays.fIs _) stays_nil)))))))))))))))) (bs' := [(gS, IsCells (u8s s) 38), (gM, IsCells [.bool F.cursor, .bool F.keypad, .bool F.back, .bool F.focus, .bool F.paste, .bool F.lock, .bool F.line, .int .i64 F.mouse, .int .i64 F.coding, .int .i64 F.other] 23), (gR, IsCells [.bool false, .bool false, .bool false, .bool false, .bool false, .bool false, .bool false, .int .i64 0, .int .i64 0, .int .i64 0] 23)]) ?_
          intro vals A hA
          simp [fillL, dstOf, List.range, List.range.loop, Act.put] at hA
          subst hA
          refine ⟨⟨?_, ?_, ?_, ?_, ?_, ?_, ?_, ?_, ?_, ?_, ?_, ?_, ?_, ?_, ?_, ?_, trivial⟩, ?_⟩
          case refine_1 =>
            refine Owes.before (by decide) (by kernel_rfl) ?_
            intro W hd hM hb0
            exact st_load hM rfl rfl rfl (.tail _ (.head _)) Try.isAgg23 Try.sizeOf23 (by repeat constructor) rfl
          case refine_2 =>
            refine Owes.before (by decide) (by kernel_rfl) ?_
            intro W hd hM hb0
            exact st_val rfl (by simp only [execOp]; first | (go_simp; done) | (go_simp; rfl)) rfl
          case refine_3 =>
            refine Owes.before (by decide) (by kernel_rfl) ?_
            intro W hd hM hb0
            exact st_val rfl (by simp only [execOp]; first | (go_simp; done) | (go_simp; rfl)) rfl
          case refine_4 =>
            refine Owes.before (by decide) (by kernel_rfl) ?_
            intro W hd hM hb0
            have v1 : vals 1 = .slice (some ad) l.length c := hd 1 (by kernel_rfl)
            have v2 : vals 2 = .int .i64 (k : Int) := hd 2 (by kernel_rfl)
            rw [v1, v2]
            have hki := hki
            exact st_val rfl (by simp only [execOp]; go_simp; first | done | rfl | (simp [hki]; done) | (simp [hki]; rfl)) rfl
          case refine_5 =>
            refine Owes.before (by decide) (by kernel_rfl) ?_
            intro W hd hM hb0
            have v3 : vals 3 = .pointer (some (ad.add k)) := hd 3 (by kernel_rfl)
            rw [v3]
            exact st_read hM rfl rfl rfl HCELL.out Try.isAgg3 rfl
          case refine_6 =>
            refine Owes.before (by decide) (by kernel_rfl) ?_
            intro W hd hM hb0
            exact st_val rfl (by simp only [execOp]; first | (go_simp; done) | (go_simp; rfl)) rfl
          case refine_7 =>
            refine Owes.before (by decide) (by kernel_rfl) ?_
            intro W hd hM hb0
            have v5 : vals 5 = .int .i64 (j : Int) := hd 5 (by kernel_rfl)
            rw [v5]
            have hj0 := hj0
            exact st_val rfl (by simp only [execOp]; go_simp; first | done | rfl | (simp [hj0, hj]; done) | (simp [hj0, hj]; rfl)) rfl
          case refine_8 =>
            refine Owes.before (by decide) (by kernel_rfl) ?_
            intro W hd hM hb0
            have v6 : vals 6 = .pointer (some ⟨gS, j, none⟩) := hd 6 (by kernel_rfl)
            rw [v6]
            exact st_load1 hM rfl rfl rfl (.head _) Try.isAgg5 HCB.out rfl
          case refine_9 =>
            refine Owes.before (by decide) (by kernel_rfl) ?_
            intro W hd hM hb0
            have v7 : vals 7 = .int .u8 1 := hd 7 (by kernel_rfl)
            rw [v7]
            exact st_val rfl (by simp only [execOp]; first | (go_simp; done) | (go_simp; rfl)) rfl
          case refine_10 =>
            refine Owes.before (by decide) (by kernel_rfl) ?_
            intro W hd hM hb0
            have v0 : vals 0 = F.v := hd 0 (by kernel_rfl)
            have v4 : vals 4 = .int .i64 x := hd 4 (by kernel_rfl)
            have v8 : vals 8 = .bool true := hd 8 (by kernel_rfl)
            rw [v0, v4, v8]
            exact st_call rfl (by simp only [execOp]; first | (go_simp; done) | (go_simp; rfl)) (rset_calls' F true x true r ok HR2.out W) (by rintro e w' ⟨rfl, hb⟩; exact ⟨_, rfl, hb, rfl⟩)
          case refine_11 =>
            refine Owes.before (by decide) (by kernel_rfl) ?_
            intro W hd hM hb0
            have v9 : vals 9 = .tuple #[r.v, .bool ok] := hd 9 (by kernel_rfl)
            rw [v9]
            exact st_val rfl (by simp only [execOp]; first | (go_simp; done) | (go_simp; rfl)) rfl
          case refine_12 =>
            refine Owes.before (by decide) (by kernel_rfl) ?_
            intro W hd hM hb0
            have v10 : vals 10 = .tuple #[r.v, .bool ok] := hd 10 (by kernel_rfl)
            rw [v10]
            exact st_val rfl (by simp only [execOp]; first | (go_simp; done) | (go_simp; rfl)) rfl
          case refine_13 =>
            refine Owes.after (by decide) (by kernel_rfl) ?_
            intro W hd
            have v10 : vals 10 = .tuple #[r.v, .bool ok] := (hd 10 (by kernel_rfl)).elim id id
            rw [v10]
            exact st_pure rfl (fun w => by simp only [execOp]; first | (go_simp; done) | (go_simp; rfl)) ⟨rfl, rfl⟩
          case refine_14 =>
            refine Owes.before (by decide) (by kernel_rfl) ?_
            intro W hd hM hb0
            exact st_new (ob := .cells #[.bool false, .bool false, .bool false, .bool false, .bool false, .bool false, .bool false, .int .i64 0, .int .i64 0, .int .i64 0] 23 (0, 0)) rfl (by simp only [execOp]; first | (go_simp; done) | (go_simp; rfl)) (fun h => ⟨_, rfl, hb0.size, h⟩)
          case refine_15 =>
            refine Owes.store ?_
            intro W hd hM hb0
            have v11 : vals 11 = r.v := hd 11 (by kernel_rfl)
            rw [v11]
            exact new_stored (iA := 13) (cs := [.bool r.cursor, .bool r.keypad, .bool r.back, .bool r.focus, .bool r.paste, .bool r.lock, .bool r.line, .int .i64 r.mouse, .int .i64 r.coding, .int .i64 r.other]) hM HL.out HW0.out (hd 13 (by kernel_rfl)) rfl rfl rfl rfl rfl Try.sizeOf23 (PutAt.all _ _ rfl) rfl (pure_cons (Pure.fIs _) (pure_cons (Pure.fIs _) (pure_cons (Pure.fIs _) (pure_cons (Pure.fIs _) (pure_cons (Pure.fIs _) (pure_cons (Pure.fIs _) (pure_cons (Pure.fIs _) (pure_cons (Pure.fIs _) (pure_cons (Pure.fIs _) (pure_cons (Pure.fIs _) (pure_cons (Pure.fIs _) (pure_cons (Pure.fIs _) (pure_cons (Pure.fIs _) pure_nil))))))))))))) (pure_cons (Pure.fAny) (pure_cons (Pure.fIs _) pure_nil)) (fun _ _ => trivial)
          case refine_16 =>
            refine Owes.after (by decide) (by kernel_rfl) ?_
            intro W hd
            have v12 : vals 12 = .bool ok := (hd 12 (by kernel_rfl)).elim id id
            rw [v12]
            exact st_pure rfl (fun w => by simp only [execOp]; first | (go_simp; done) | (go_simp; rfl)) ⟨rfl, rfl⟩
          case refine_17 =>
            intro W hd hM
            obtain ⟨gX, eX, hgeX, hgX⟩ : fVar wB.heap.size 23 [.bool r.cursor, .bool r.keypad, .bool r.back, .bool r.focus, .bool r.paste, .bool r.lock, .bool r.line, .int .i64 r.mouse, .int .i64 r.coding, .int .i64 r.other] (vals 13) W := hd 13 (by decide)
            have HO := hM.take (p := IsCells [.bool r.cursor, .bool r.keypad, .bool r.back, .bool r.focus, .bool r.paste, .bool r.lock, .bool r.line, .int .i64 r.mouse, .int .i64 r.coding, .int .i64 r.other] 23) HL.out HW0.out hgeX ⟨_, hgX, rfl⟩
            simp only [List.nil_append, List.cons_append] at HO
            rw [eX]
            clear hd hM hgX eX HL HW0
            go_wp2_with (first
                  | ((with_reducible refine gate ?_); (first
                  | ((refine own_box HO rfl rfl rfl ?_); clear HO; intro gN wN hgN HO; (simp only [List.nil_append, List.cons_append] at HO); (try simp only [Act.put, List.setIfInBounds_toArray, List.set_cons_zero, List.set_cons_succ]))
                  | ((refine own_load (T := 23) HO rfl rfl rfl (by first | exact .head _ | exact .tail _ (.head _) | exact .tail _ (.tail _ (.head _)) | exact .tail _ (.tail _ (.tail _ (.head _))) | exact .tail _ (.tail _ (.tail _ (.tail _ (.head _)))) | exact .tail _ (.tail _ (.tail _ (.tail _ (.tail _ (.head _)))))) Try.isAgg23 Try.sizeOf23 (by repeat constructor) ?_); (try simp only [Act.put, List.setIfInBounds_toArray, List.set_cons_zero, List.set_cons_succ]))
                  | ((refine own_store (T := 23) HO rfl rfl rfl rfl (by first | exact .here | exact .there (.here) | exact .there (.there (.here)) | exact .there (.there (.there (.here))) | exact .there (.there (.there (.there (.here)))) | exact .there (.there (.there (.there (.there (.here)))))) Try.sizeOf23 (by repeat constructor) rfl ?_); clear HO; intro wN HO; (try simp only [Act.put, List.setIfInBounds_toArray, List.set_cons_zero, List.set_cons_succ])))))
            go_roundw
            case rel =>
              refine ⟨k + 1, by have := HLT.out; omega, by first | exact rfl | (refine congrArg (Value.int .i64) ?_; have := HLT.out; have := HLN.out; unfold wrap64; omega), ?_⟩
              rw [H3.out]
              exact HO.less (.cons_cons _ (.cons_cons _ (.cons_cons _ (.cons _ .slnil))))
            case measure => first | exact meas_len l.length k HLT.out | exact meas_wrap l.length k HLT.out (by have := HLN.out; omega)
        · subst h2
          clear h1
          obtain ⟨⟨r, ok⟩, hr⟩ : ∃ p, setM F true x false = p := ⟨_, rfl⟩
          have H3 : Hid ((pairsL (l.take (k + 1))).foldl (stepR s) m = r) := Lib.hid (HST.out.trans (by rw [if_pos (by decide)]; show (setM F true x false).1 = r; rw [hr]))
          have HR2 := Lib.hid hr
          clear HST hr
          go_wp2_with (first | (go_at_call 32; refine (place_calls x _ HV.out _).mono ?_; rintro eN wN ⟨rfl, hbN⟩; have HON := HO.call hbN; have hcw2 := (hbN.cell (World.block_lt_of_cell? _ _ hcw)).trans hcw; clear HO hbN hcw; have HO := HON; have hcw := hcw2; clear HON hcw2) | ((with_reducible refine gate ?_); refine own_load1 (T := 5) HO rfl rfl rfl (.head _) Try.isAgg5 HCB.out ?_; (try simp only [Act.put, List.setIfInBounds_toArray, List.set_cons_zero, List.set_cons_succ])))
          obtain ⟨wB, hwB⟩ : ∃ wB, wN = wB := ⟨_, rfl⟩
          rw [hwB] at HO ⊢
          clear hwB
          have hlt2 : ∀ q ∈ [(gS, IsCells (u8s s) 38), (gM, IsCells [.bool F.cursor, .bool F.keypad, .bool F.back, .bool F.focus, .bool F.paste, .bool F.lock, .bool F.line, .int .i64 F.mouse, .int .i64 F.coding, .int .i64 F.other] 23), (gR, IsCells [.bool false, .bool false, .bool false, .bool false, .bool false, .bool false, .bool false, .int .i64 0, .int .i64 0, .int .i64 0] 23)], q.1 < _ := fun q hq => HO.lt hq
          have hW0 := HO.below.size
          have HL := Lib.hid hlt2
          have HW0 := Lib.hid hW0
          clear hlt2 hW0
          refine region_put 14 _ ([fIs (F.v), fIs (.slice (some ad) l.length c), fIs (.int .i64 (k : Int)), fIs (.pointer (some (ad.add k))), fIs (.int .i64 x), fIs (.int .i64 (j : Int)), fIs (.pointer (some ⟨gS, j, none⟩)), fIs (.int .u8 2), fIs (.bool false), fIs (.tuple #[r.v, .bool ok]), fIs (.tuple #[r.v, .bool ok]), fIs (r.v), fIs (.bool ok)] ++ fVar wB.heap.size 23 [.bool false, .bool false, .bool false, .bool false, .bool false, .bool false, .bool false, .int .i64 0, .int .i64 0, .int .i64 0] :: [fAny, fIs (.bool ok)]) ([fIs (F.v), fIs (.slice (some ad) l.length c), fIs (.int .i64 (k : Int)), fIs (.pointer (some (ad.add k))), fIs (.int .i64 x), fIs (.int .i64 (j : Int)), fIs (.pointer (some ⟨gS, j, none⟩)), fIs (.int .u8 2), fIs (.bool false), fIs (.tuple #[r.v, .bool ok]), fIs (.tuple #[r.v, .bool ok]), fIs (r.v), fIs (.bool ok)] ++ fVar wB.heap.size 23 [.bool r.cursor, .bool r.keypad, .bool r.back, .bool r.focus, .bool r.paste, .bool r.lock, .bool r.line, .int .i64 r.mouse, .int .i64 r.coding, .int .i64 r.other] :: [fAny, fIs (.bool ok)]) HO (by kernel_rfl) (by kernel_rfl) rfl (stays_cons (Stays.fIs _) (stays_cons (Stays.fIs _) (stays_cons (Stays.fIs _) (stays_cons (Stays.fIs _) (stays_cons (Stays.fIs _) (stays_cons (Stays.fIs _) (stays_cons (Stays.fIs _) (stays_cons (Stays.fIs _) (stays_cons (Stays.fIs _) (stays_cons (Stays.fIs _) (stays_cons (Stays.fIs _) (stays_cons (Stays.fIs _) (stays_cons (Stays.fIs _) (stays_cons (Stays.fVar _ _ _) (stays_cons (Stays.fAny) (stays_cons (Stays.fIs _) stays_nil)))))))))))))))) (stays_cons (Stays.fIs _) (stays_cons (Stays.fIs _) (stays_cons (Stays.fIs _) (stays_cons (Stays.fIs _) (stays_cons (Stays.fIs _) (stays_cons (Stays.fIs _) (stays_cons (Stays.fIs _) (stays_cons (Stays.fIs _) (stays_cons (Stays.fIs _) (stays_cons (Stays.fIs _) (stays_cons (Stays.fIs _) (stays_cons (Stays.fIs _) (stays_cons (Stays.fIs _) (stays_cons (Stays.fVar _ _ _) (stays_cons (Stays.fAny) (stays_cons (Stays.fIs _) stays_nil)))))))))))))))) (bs' := [(gS, IsCells (u8s s) 38), (gM, IsCells [.bool F.cursor, .bool F.keypad, .bool F.back, .bool F.focus, .bool F.paste, .bool F.lock, .bool F.line, .int .i64 F.mouse, .int .i64 F.coding, .int .i64 F.other] 23), (gR, IsCells [.bool false, .bool false, .bool false, .bool false, .bool false, .bool false, .bool false, .int .i64 0, .int .i64 0, .int .i64 0] 23)]) ?_
          intro vals A hA
          simp [fillL, dstOf, List.range, List.range.loop, Act.put] at hA
          subst hA
          refine ⟨⟨?_, ?_, ?_, ?_, ?_, ?_, ?_, ?_, ?_, ?_, ?_, ?_, ?_, ?_, ?_, ?_, trivial⟩, ?_⟩
          case refine_1 =>
            refine Owes.before (by decide) (by kernel_rfl) ?_
            intro W hd hM hb0
            exact st_load hM rfl rfl rfl (.tail _ (.head _)) Try.isAgg23 Try.sizeOf23 (by repeat constructor) rfl
          case refine_2 =>
            refine Owes.before (by decide) (by kernel_rfl) ?_
            intro W hd hM hb0
            exact st_val rfl (by simp only [execOp]; first | (go_simp; done) | (go_simp; rfl)) rfl
          case refine_3 =>
            refine Owes.before (by decide) (by kernel_rfl) ?_
            intro W hd hM hb0
            exact st_val rfl (by simp only [execOp]; first | (go_simp; done) | (go_simp; rfl)) rfl
          case refine_4 =>
            refine Owes.before (by decide) (by kernel_rfl) ?_
            intro W hd hM hb0
            have v1 : vals 1 = .slice (some ad) l.length c := hd 1 (by kernel_rfl)
            have v2 : vals 2 = .int .i64 (k : Int) := hd 2 (by kernel_rfl)
            rw [v1, v2]
            have hki := hki
            exact st_val rfl (by simp only [execOp]; go_simp; first | done | rfl | (simp [hki]; done) | (simp [hki]; rfl)) rfl
          case refine_5 =>
            refine Owes.before (by decide) (by kernel_rfl) ?_
            intro W hd hM hb0
            have v3 : vals 3 = .pointer (some (ad.add k)) := hd 3 (by kernel_rfl)
            rw [v3]
            exact st_read hM rfl rfl rfl HCELL.out Try.isAgg3 rfl
          case refine_6 =>
            refine Owes.before (by decide) (by kernel_rfl) ?_
            intro W hd hM hb0
            exact st_val rfl (by simp only [execOp]; first | (go_simp; done) | (go_simp; rfl)) rfl
          case refine_7 =>
            refine Owes.before (by decide) (by kernel_rfl) ?_
            intro W hd hM hb0
            have v5 : vals 5 = .int .i64 (j : Int) := hd 5 (by kernel_rfl)
            rw [v5]
            have hj0 := hj0
            exact st_val rfl (by simp only [execOp]; go_simp; first | done | rfl | (simp [hj0, hj]; done) | (simp [hj0, hj]; rfl)) rfl
          case refine_8 =>
            refine Owes.before (by decide) (by kernel_rfl) ?_
            intro W hd hM hb0
            have v6 : vals 6 = .pointer (some ⟨gS, j, none⟩) := hd 6 (by kernel_rfl)
            rw [v6]
            exact st_load1 hM rfl rfl rfl (.head _) Try.isAgg5 HCB.out rfl
          case refine_9 =>
            refine Owes.before (by decide) (by kernel_rfl) ?_
            intro W hd hM hb0
            have v7 : vals 7 = .int .u8 2 := hd 7 (by kernel_rfl)
            rw [v7]
            exact st_val rfl (by simp only [execOp]; first | (go_simp; done) | (go_simp; rfl)) rfl
          case refine_10 =>
            refine Owes.before (by decide) (by kernel_rfl) ?_
            intro W hd hM hb0
            have v0 : vals 0 = F.v := hd 0 (by kernel_rfl)
            have v4 : vals 4 = .int .i64 x := hd 4 (by kernel_rfl)
            have v8 : vals 8 = .bool false := hd 8 (by kernel_rfl)
            rw [v0, v4, v8]
            exact st_call rfl (by simp only [execOp]; first | (go_simp; done) | (go_simp; rfl)) (rset_calls' F true x false r ok HR2.out W) (by rintro e w' ⟨rfl, hb⟩; exact ⟨_, rfl, hb, rfl⟩)
          case refine_11 =>
            refine Owes.before (by decide) (by kernel_rfl) ?_
            intro W hd hM hb0
            have v9 : vals 9 = .tuple #[r.v, .bool ok] := hd 9 (by kernel_rfl)
            rw [v9]
            exact st_val rfl (by simp only [execOp]; first | (go_simp; done) | (go_simp; rfl)) rfl
          case refine_12 =>
            refine Owes.before (by decide) (by kernel_rfl) ?_
            intro W hd hM hb0
            have v10 : vals 10 = .tuple #[r.v, .bool ok] := hd 10 (by kernel_rfl)
            rw [v10]
            exact st_val rfl (by simp only [execOp]; first | (go_simp; done) | (go_simp; rfl)) rfl
          case refine_13 =>
            refine Owes.after (by decide) (by kernel_rfl) ?_
            intro W hd
            have v10 : vals 10 = .tuple #[r.v, .bool ok] := (hd 10 (by kernel_rfl)).elim id id
            rw [v10]
            exact st_pure rfl (fun w => by simp only [execOp]; first | (go_simp; done) | (go_simp; rfl)) ⟨rfl, rfl⟩
          case refine_14 =>
            refine Owes.before (by decide) (by kernel_rfl) ?_
            intro W hd hM hb0
            exact st_new (ob := .cells #[.bool false, .bool false, .bool false, .bool false, .bool false, .bool false, .bool false, .int .i64 0, .int .i64 0, .int .i64 0] 23 (0, 0)) rfl (by simp only [execOp]; first | (go_simp; done) | (go_simp; rfl)) (fun h => ⟨_, rfl, hb0.size, h⟩)
          case refine_15 =>
            refine Owes.store ?_
            intro W hd hM hb0
            have v11 : vals 11 = r.v := hd 11 (by kernel_rfl)
            rw [v11]
            exact new_stored (iA := 13) (cs := [.bool r.cursor, .bool r.keypad, .bool r.back, .bool r.focus, .bool r.paste, .bool r.lock, .bool r.line, .int .i64 r.mouse, .int .i64 r.coding, .int .i64 r.other]) hM HL.out HW0.out (hd 13 (by kernel_rfl)) rfl rfl rfl rfl rfl Try.sizeOf23 (PutAt.all _ _ rfl) rfl (pure_cons (Pure.fIs _) (pure_cons (Pure.fIs _) (pure_cons (Pure.fIs _) (pure_cons (Pure.fIs _) (pure_cons (Pure.fIs _) (pure_cons (Pure.fIs _) (pure_cons (Pure.fIs _) (pure_cons (Pure.fIs _) (pure_cons (Pure.fIs _) (pure_cons (Pure.fIs _) (pure_cons (Pure.fIs _) (pure_cons (Pure.fIs _) (pure_cons (Pure.fIs _) pure_nil))))))))))))) (pure_cons (Pure.fAny) (pure_cons (Pure.fIs _) pure_nil)) (fun _ _ => trivial)
          case refine_16 =>
            refine Owes.after (by decide) (by kernel_rfl) ?_
            intro W hd
            have v12 : vals 12 = .bool ok := (hd 12 (by kernel_rfl)).elim id id
            rw [v12]
            exact st_pure rfl (fun w => by simp only [execOp]; first | (go_simp; done) | (go_simp; rfl)) ⟨rfl, rfl⟩
          case refine_17 =>
            intro W hd hM
            obtain ⟨gX, eX, hgeX, hgX⟩ : fVar wB.heap.size 23 [.bool r.cursor, .bool r.keypad, .bool r.back, .bool r.focus, .bool r.paste, .bool r.lock, .bool r.line, .int .i64 r.mouse, .int .i64 r.coding, .int .i64 r.other] (vals 13) W := hd 13 (by decide)
            have HO := hM.take (p := IsCells [.bool r.cursor, .bool r.keypad, .bool r.back, .bool r.focus, .bool r.paste, .bool r.lock, .bool r.line, .int .i64 r.mouse, .int .i64 r.coding, .int .i64 r.other] 23) HL.out HW0.out hgeX ⟨_, hgX, rfl⟩
            simp only [List.nil_append, List.cons_append] at HO
            rw [eX]
            clear hd hM hgX eX HL HW0
            go_wp2_with (first
                  | ((with_reducible refine gate ?_); (first
                  | ((refine own_box HO rfl rfl rfl ?_); clear HO; intro gN wN hgN HO; (simp only [List.nil_append, List.cons_append] at HO); (try simp only [Act.put, List.setIfInBounds_toArray, List.set_cons_zero, List.set_cons_succ]))
                  | ((refine own_load (T := 23) HO rfl rfl rfl (by first | exact .head _ | exact .tail _ (.head _) | exact .tail _ (.tail _ (.head _)) | exact .tail _ (.tail _ (.tail _ (.head _))) | exact .tail _ (.tail _ (.tail _ (.tail _ (.head _)))) | exact .tail _ (.tail _ (.tail _ (.tail _ (.tail _ (.head _)))))) Try.isAgg23 Try.sizeOf23 (by repeat constructor) ?_); (try simp only [Act.put, List.setIfInBounds_toArray, List.set_cons_zero, List.set_cons_succ]))
                  | ((refine own_store (T := 23) HO rfl rfl rfl rfl (by first | exact .here | exact .there (.here) | exact .there (.there (.here)) | exact .there (.there (.there (.here))) | exact .there (.there (.there (.there (.here)))) | exact .there (.there (.there (.there (.there (.here)))))) Try.sizeOf23 (by repeat constructor) rfl ?_); clear HO; intro wN HO; (try simp only [Act.put, List.setIfInBounds_toArray, List.set_cons_zero, List.set_cons_succ])))))
            go_roundw
            case rel =>
              refine ⟨k + 1, by have := HLT.out; omega, by first | exact rfl | (refine congrArg (Value.int .i64) ?_; have := HLT.out; have := HLN.out; unfold wrap64; omega), ?_⟩
              rw [H3.out]
              exact HO.less (.cons_cons _ (.cons_cons _ (.cons_cons _ (.cons _ .slnil))))
            case measure => first | exact meas_len l.length k HLT.out | exact meas_wrap l.length k HLT.out (by have := HLN.out; omega)
        · have b1 : (b == 1) = false := beq_eq_false_iff_ne.2 h1
          have b2 : (b == 2) = false := beq_eq_false_iff_ne.2 h2
          have H3 : Hid ((pairsL (l.take (k + 1))).foldl (stepR s) m = F) := Lib.hid (HST.out.trans (by rw [if_neg (by omega)]))
          clear HST h1 h2
          go_wp2_with (first | (go_at_call 32; refine (place_calls x _ HV.out _).mono ?_; rintro eN wN ⟨rfl, hbN⟩; have HON := HO.call hbN; have hcw2 := (hbN.cell (World.block_lt_of_cell? _ _ hcw)).trans hcw; clear HO hbN hcw; have HO := HON; have hcw := hcw2; clear HON hcw2) | ((with_reducible refine gate ?_); refine own_load1 (T := 5) HO rfl rfl rfl (.head _) Try.isAgg5 HCB.out ?_; (try simp only [Act.put, List.setIfInBounds_toArray, List.set_cons_zero, List.set_cons_succ])))
          go_roundw
          case rel =>
            refine ⟨k + 1, by have := HLT.out; omega, by first | exact rfl | (refine congrArg (Value.int .i64) ?_; have := HLT.out; have := HLN.out; unfold wrap64; omega), ?_⟩
            rw [H3.out]
            exact HO
          case measure => first | exact meas_len l.length k HLT.out | exact meas_wrap l.length k HLT.out (by have := HLN.out; omega)
      · obtain ⟨v, hve⟩ : ∃ v, idxI ownL x = v := ⟨_, rfl⟩
        rw [hve] at hv
        have HV := Lib.hid hve
        have hd : decide (v ≥ 0) = false := decide_eq_false (by omega)
        have hd2 : decide (0 ≤ v) = false := hd
        have H3 := Lib.hid (show (pairsL (l.take (k + 1))).foldl (stepR s) m = F by rw [hp, hF])
        clear hF hp hv hve hx hk hlt hcell
        go_wp2_with (go_at_call 32; refine (place_calls x _ HV.out _).mono ?_; rintro eN wN ⟨rfl, hbN⟩; have HON := HO.call hbN; have hcw2 := (hbN.cell (World.block_lt_of_cell? _ _ hcw)).trans hcw; clear HO hbN hcw; have HO := HON; have hcw := hcw2; clear HON hcw2)
        go_roundw
        case rel =>
          refine ⟨k + 1, by have := HLT.out; omega, by first | exact rfl | (refine congrArg (Value.int .i64) ?_; have := HLT.out; have := HLN.out; unfold wrap64; omega), ?_⟩
          rw [H3.out]
          exact HO
        case measure => first | exact meas_len l.length k HLT.out | exact meas_wrap l.length k HLT.out (by have := HLN.out; omega)
    · obtain rfl : k = l.length := by omega
      have hkd : decide ((l.length : Int) < (l.length : Int)) = false := decide_eq_false (by omega)
      rw [List.take_of_length_le (Nat.le_refl _)] at HO
      obtain ⟨F, hF⟩ : ∃ F, (pairsL l).foldl (stepR s) m = F := ⟨_, rfl⟩
      rw [hF] at HO
      have HSV := Lib.hid (show restL s m l = F from hF)
      clear hF hlt hk
      go_wp2_with (first
      | ((with_reducible refine gate ?_); (first
      | ((refine own_box HO rfl rfl rfl ?_); clear HO; intro gN wN hgN HO; (simp only [List.nil_append, List.cons_append] at HO); (try simp only [Act.put, List.setIfInBounds_toArray, List.set_cons_zero, List.set_cons_succ]))
      | ((refine own_load (T := 23) HO rfl rfl rfl (by first | exact .head _ | exact .tail _ (.head _) | exact .tail _ (.tail _ (.head _)) | exact .tail _ (.tail _ (.tail _ (.head _))) | exact .tail _ (.tail _ (.tail _ (.tail _ (.head _)))) | exact .tail _ (.tail _ (.tail _ (.tail _ (.tail _ (.head _)))))) Try.isAgg23 Try.sizeOf23 (by repeat constructor) ?_); (try simp only [Act.put, List.setIfInBounds_toArray, List.set_cons_zero, List.set_cons_succ]))
      | ((refine own_store (T := 23) HO rfl rfl rfl rfl (by first | exact .here | exact .there (.here) | exact .there (.there (.here)) | exact .there (.there (.there (.here))) | exact .there (.there (.there (.there (.here)))) | exact .there (.there (.there (.there (.there (.here)))))) Try.sizeOf23 (by repeat constructor) rfl ?_); clear HO; intro wN HO; (try simp only [Act.put, List.setIfInBounds_toArray, List.set_cons_zero, List.set_cons_succ])))))
      exact bodyPost_ret (own_results1 HO Try.results23 rfl (.tail _ (.tail _ (.head _))) Try.isAgg23 Try.sizeOf23 (by repeat constructor)) rfl ⟨by rw [HSV.out], HO.below⟩
end Go.Proofs.Ytllloedhlcdbjaa
end
section
namespace Go.Proofs.Ytllloedhlcdbjaa
set_option linter.unusedVariables false
set_option linter.unusedSimpArgs false
open Go.RowKit Kit Go.Proofs.YtllloedhlcdbjaaW.PrintWords
theorem ps_save (s : List Int) (hs : s.length = 12) (m : Md) (A : Option Addr) (c : Nat) (l : List Int) (hn : l.length ≤ 1000000) {w W : World} (hC : (Kd.int .i64).C w A l.length l) (hb : Below w.heap.size w W) (S : List Int) (hS : saveL m s l = S) :
    Calls Try.prog 20 #[.agg (u8s s).toArray, m.v, .slice A l.length c] W fun e w' => e = .returned (.agg (u8s S).toArray) ∧ Below W.heap.size W w' := by
  have h := save_calls s hs m A c l hn W (Kd.C_below hC hb); rw [hS] at h; exact h
theorem rs_save (s : List Int) (hs : s.length = 12) (m : Md) (A : Option Addr) (c : Nat) (l : List Int) (hn : l.length ≤ 1000000) {w W : World} (hC : (Kd.int .i64).C w A l.length l) (hb : Below w.heap.size w W) (S : List Int) (hS : saveL m s l = S) :
    Calls Try.prog 21 #[.agg (u8s s).toArray, m.v, .slice A l.length c] W fun e w' => e = .returned (.agg (u8s S).toArray) ∧ Below W.heap.size W w' := by
  have h := refSave_calls s hs m A c l hn W (Kd.C_below hC hb); rw [hS] at h; exact h
theorem ps_rest (s : List Int) (hs : s.length = 12) (m : Md) (A : Option Addr) (c : Nat) (l : List Int) (hn : l.length ≤ 1000000) {w W : World} (hC : (Kd.int .i64).C w A l.length l) (hb : Below w.heap.size w W) (S : Md) (hS : restL s m l = S) :
    Calls Try.prog 22 #[.agg (u8s s).toArray, m.v, .slice A l.length c] W fun e w' => e = .returned S.v ∧ Below W.heap.size W w' := by
  have h := restore_calls s hs m A c l hn W (Kd.C_below hC hb); rw [hS] at h; exact h
theorem rs_rest (s : List Int) (hs : s.length = 12) (m : Md) (A : Option Addr) (c : Nat) (l : List Int) (hn : l.length ≤ 1000000) {w W : World} (hC : (Kd.int .i64).C w A l.length l) (hb : Below w.heap.size w W) (S : Md) (hS : restL s m l = S) :
    Calls Try.prog 23 #[.agg (u8s s).toArray, m.v, .slice A l.length c] W fun e w' => e = .returned S.v ∧ Below W.heap.size W w' := by
  have h := refRestore_calls s hs m A c l hn W (Kd.C_below hC hb); rw [hS] at h; exact h
attribute [local irreducible] wpList Calls wpQuiet
set_option maxRecDepth 100000 in
set_option maxHeartbeats 8000000 in
theorem saveTells_long (s : List Int) (hs : s.length = 12) (m : Md) (A : Option Addr) (c : Nat) (l : List Int) (w : World) (hl : 30 < l.length) :
    Calls Try.prog 6 #[.agg (u8s s).toArray, m.v, .slice A l.length c] w fun e w' => e = .returned (.bool true) ∧ Below w.heap.size w w' := by
  have HO := Mine.start w
  have HS := Lib.hid hs
  clear hs
  have hc : decide ((l.length : Int) > 30) = true := decide_eq_true (by omega)
  have hc2 : decide (30 < (l.length : Int)) = true := hc
  have hc3 : decide (30 < l.length) = true := decide_eq_true hl
  clear hl
  go_enter Try.func6, Try.ntmps6
  go_wp2_with (first
      | (go_at_call 19; refine (awake07_calls _).mono ?_; rintro eN wN ⟨rfl, hbN⟩; have HON := HO.call hbN; clear HO hbN; have HO := HON; clear HON)
      | ((with_reducible refine gate ?_); (first
      | ((with_reducible refine gateAt (N := 4) rfl ?_); refine own_box (T := 23) HO rfl rfl rfl ?_; clear HO; intro gM wN hggM HO; (simp only [List.nil_append, List.cons_append] at HO); (try simp only [Act.put, List.setIfInBounds_toArray, List.set_cons_zero, List.set_cons_succ]))
      | ((with_reducible refine gateAt (N := 3) rfl ?_); refine own_box (T := 38) HO rfl rfl (cs := u8s s) rfl ?_; clear HO; intro gS wN hgN HO; (simp only [List.nil_append, List.cons_append] at HO); (try simp only [Act.put, List.setIfInBounds_toArray, List.set_cons_zero, List.set_cons_succ]))
      | ((refine own_box HO rfl rfl rfl ?_); clear HO; intro gN wN hgN HO; (simp only [List.nil_append, List.cons_append] at HO); (try simp only [Act.put, List.setIfInBounds_toArray, List.set_cons_zero, List.set_cons_succ])))))
  go_ret
  exact ⟨rfl, HO.below⟩
set_option maxRecDepth 100000 in
set_option maxHeartbeats 8000000 in
theorem saveTells_short (s : List Int) (hs : s.length = 12) (m : Md) (A : Option Addr) (c : Nat) (l : List Int) (w : World) (hl : ¬ 30 < l.length) (hC : (Kd.int .i64).C w A l.length l) :
    Calls Try.prog 6 #[.agg (u8s s).toArray, m.v, .slice A l.length c] w fun e w' => e = .returned (.bool true) ∧ Below w.heap.size w w' := by
  have HO := Mine.start w
  have HS := Lib.hid hs
  clear hs
  have hc : decide ((l.length : Int) > 30) = false := decide_eq_false (by omega)
  have hc2 : decide (30 < (l.length : Int)) = false := hc
  have hc3 : decide (30 < l.length) = false := decide_eq_false hl
  have HLN : Hid (l.length ≤ 1000000) := Lib.hid (by omega)
  have HC := Lib.hid hC
  have hS12 : (saveL m s l).length = 12 := (saveL_len m s l).trans HS.out
  obtain ⟨S, hS⟩ : ∃ S, saveL m s l = S := ⟨_, rfl⟩
  rw [hS] at hS12
  obtain ⟨K, hK⟩ : ∃ K, restL s m l = K := ⟨_, rfl⟩
  have HSV := Lib.hid hS
  have HK := Lib.hid hK
  have HE1 : Hid (∀ w, (Op.equal 38 (.agg (u8s S).toArray) (.agg (u8s S).toArray)).run Try.prog w = .ok true w) := Lib.hid fun w => (equal_saved' S S hS12 hS12 w).trans (by rw [decide_eq_true rfl])
  have HE2 : Hid (∀ w, (Op.equal 23 K.v K.v).run Try.prog w = .ok true w) := Lib.hid fun w => (equal_modes K K w).trans (by rw [decide_eq_true rfl])
  clear hl hC hS12 hS hK
  go_enter Try.func6, Try.ntmps6
  go_wp2_with (first
      | (go_at_call 19; refine (awake07_calls _).mono ?_; rintro eN wN ⟨rfl, hbN⟩; have HON := HO.call hbN; clear HO hbN; have HO := HON; clear HON)
      | ((with_reducible refine gate ?_); (first
      | ((with_reducible refine gateAt (N := 4) rfl ?_); refine own_box (T := 23) HO rfl rfl rfl ?_; clear HO; intro gM wN hggM HO; (simp only [List.nil_append, List.cons_append] at HO); (try simp only [Act.put, List.setIfInBounds_toArray, List.set_cons_zero, List.set_cons_succ]))
      | ((with_reducible refine gateAt (N := 3) rfl ?_); refine own_box (T := 38) HO rfl rfl (cs := u8s s) rfl ?_; clear HO; intro gS wN hgN HO; (simp only [List.nil_append, List.cons_append] at HO); (try simp only [Act.put, List.setIfInBounds_toArray, List.set_cons_zero, List.set_cons_succ]))
      | ((refine own_box HO rfl rfl rfl ?_); clear HO; intro gN wN hgN HO; (simp only [List.nil_append, List.cons_append] at HO); (try simp only [Act.put, List.setIfInBounds_toArray, List.set_cons_zero, List.set_cons_succ])))))
  (refine region_quiet HO (by kernel_rfl) (by kernel_rfl) ?_); repeat (first
        | (go_big_quiet_skip)
        | ((with_reducible refine qg_load ?_); (refine q_load (T := 38) (n := 12) (vs := u8s s) rfl rfl rfl (.head _) Try.isAgg38 Try.sizeOf38 (slc12 HS.out) ?_); (try simp only [Act.put, List.setIfInBounds_toArray, List.set_cons_zero, List.set_cons_succ]))
        | ((with_reducible refine qg_move ?_); (refine q_move rfl rfl (by first | exact .const | exact .tmp rfl | exact .func) ?_); (try simp only [Act.put, List.setIfInBounds_toArray, List.set_cons_zero, List.set_cons_succ]))
        | ((with_reducible refine qg_assign ?_); (refine q_assign rfl rfl (by first | exact .const | exact .tmp rfl | exact .func) ?_); (try simp only [Act.put, List.setIfInBounds_toArray, List.set_cons_zero, List.set_cons_succ]))
        | ((with_reducible refine qg_pick ?_); (refine q_pick_true rfl rfl rfl (by first | exact .const | exact .tmp rfl | exact .func) ?_); (try simp only [Act.put, List.setIfInBounds_toArray, List.set_cons_zero, List.set_cons_succ]))
        | ((with_reducible refine qg_pick ?_); (refine q_pick_false rfl rfl rfl (by first | exact .const | exact .tmp rfl | exact .func) ?_); (try simp only [Act.put, List.setIfInBounds_toArray, List.set_cons_zero, List.set_cons_succ]))
        | ((with_reducible refine qg_load ?_); (refine q_load (T := 23) rfl rfl rfl (by first | exact .head _ | exact .tail _ (.head _) | exact .tail _ (.tail _ (.head _)) | exact .tail _ (.tail _ (.tail _ (.head _))) | exact .tail _ (.tail _ (.tail _ (.tail _ (.head _)))) | exact .tail _ (.tail _ (.tail _ (.tail _ (.tail _ (.head _)))))) Try.isAgg23 Try.sizeOf23 (by repeat constructor) ?_); (try simp only [Act.put, List.setIfInBounds_toArray, List.set_cons_zero, List.set_cons_succ]))
        | ((with_reducible refine qg_call ?_); (refine q_call (f := 20) rfl rfl Try.call20 rfl (fun wN HON => (ps_save s HS.out m A c l HLN.out HC.out HON.below S HSV.out)) ?_); (try simp only [Act.put, List.setIfInBounds_toArray, List.set_cons_zero, List.set_cons_succ]))
        | ((with_reducible refine qg_call ?_); (refine q_call (f := 21) rfl rfl Try.call21 rfl (fun wN HON => (rs_save s HS.out m A c l HLN.out HC.out HON.below S HSV.out)) ?_); (try simp only [Act.put, List.setIfInBounds_toArray, List.set_cons_zero, List.set_cons_succ]))
        | ((with_reducible refine qg_call ?_); (refine q_call (f := 22) rfl rfl Try.call22 rfl (fun wN HON => (ps_rest s HS.out m A c l HLN.out HC.out HON.below K HK.out)) ?_); (try simp only [Act.put, List.setIfInBounds_toArray, List.set_cons_zero, List.set_cons_succ]))
        | ((with_reducible refine qg_call ?_); (refine q_call (f := 23) rfl rfl Try.call23 rfl (fun wN HON => (rs_rest s HS.out m A c l HLN.out HC.out HON.below K HK.out)) ?_); (try simp only [Act.put, List.setIfInBounds_toArray, List.set_cons_zero, List.set_cons_succ]))
        | ((with_reducible refine qg_binOp ?_); (refine q_eql (t := 38) rfl rfl rfl rfl (by kernel_rfl) HE1.out ?_); (try simp only [Act.put, List.setIfInBounds_toArray, List.set_cons_zero, List.set_cons_succ]))
        | ((with_reducible refine qg_binOp ?_); (refine q_eql (t := 23) rfl rfl rfl rfl (by kernel_rfl) HE2.out ?_); (try simp only [Act.put, List.setIfInBounds_toArray, List.set_cons_zero, List.set_cons_succ]))
        | ((refine q_val rfl (fun w => by simp only [execOp]; first | (go_simp; done) | (go_simp; rfl)) ?_); (try simp only [Act.put, List.setIfInBounds_toArray, List.set_cons_zero, List.set_cons_succ])))
  refine wpQuiet_nil ?_
  intro wZ HOz
  go_wp2
  go_ret
  exact ⟨rfl, HOz.below⟩
theorem saveTells_calls (s : List Int) (hs : s.length = 12) (m : Md) (A : Option Addr) (c : Nat) (l : List Int) (w : World) (hC : (Kd.int .i64).C w A l.length l) :
    Calls Try.prog 6 #[.agg (u8s s).toArray, m.v, .slice A l.length c] w fun e w' => e = .returned (.bool true) ∧ Below w.heap.size w w' := by
  by_cases hl : 30 < l.length
  · exact saveTells_long s hs m A c l w hl
  · exact saveTells_short s hs m A c l w hl hC
end Go.Proofs.Ytllloedhlcdbjaa
end
