/- M: texts run together by shake.py: RpL WTab WAt WRepsOne WInv WGuard KitP StA PSt StO StD KitV KitW RpE NuT RpF Gx0 GgnumText GgstringsJoin Gstyleb Ggclavierref01Text Gstylea GgstyleParams Gwirea. -/
import Derived.ArgAppend
import Derived.Below
import Derived.BigQuiet
import Derived.Deep.AppendLies
import Derived.Deep.CutBlock
import Derived.Deep.DeepCutAuto
import Derived.Deep.Draws
import Derived.Deep.LoopGhost
import Derived.Deep.OwnRows
import Derived.Deep.Quiet
import Derived.Deep.QuietTactic
import Derived.Deep.RegionHeld3
import Derived.Ground.Names2Prog
import Derived.Ground.SlgnProg
import Derived.KernelRfl
import Derived.Laws.AppendOwn
import Derived.Laws.AppendOwnNone
import Derived.Laws.BitsLemmas
import Derived.Laws.BytesArg
import Derived.Laws.Concat
import Derived.Laws.CopyRow
import Derived.Laws.IdiomCopy
import Derived.Laws.IdiomStrings
import Derived.Laws.MakeOwn
import Derived.Laws.OwnMore
import Derived.Laws.Rows
import Derived.Laws.Slices
import Derived.Laws.StructEq
import Derived.Laws.Tables
import Derived.Lib.AppendIntMem
import Derived.Lib.AppendStr
import Derived.Lib.ConvBytes
import Derived.Lib.Hide
import Derived.Lib.ItoaLen
import Derived.Lib.ItoaNum
import Derived.Lib.LaidTab
import Derived.MapKept
import Derived.Maps.AppendAt
import Derived.Orders
import Derived.OrdersHeld
import Derived.Outline
import Derived.OwnWalk
import Derived.RowKit
import Derived.RowKit3
import Derived.Shelf.LaysM
import Derived.Shelf.Slices.Clone
import Derived.Shelf.SlicesE.Clone
import Derived.Shelf.Strconv.Itoa0
import Derived.Shelf.Strconv.Itoa1
import Derived.Shelf.Strconv.Itoa2
import Derived.Shelf.Strconv.Itoa3
import Derived.Shelf.Strings.Builder1
import Derived.Shelf.Strings.Builder2
import Derived.Shelf.Strings.Builder2Cap
import Derived.Shelf.Strings.BuilderCap
import Derived.Shelf.Strings.BuilderF
import Derived.Shelf.Strings.BuilderK
import Derived.Shelf.Strings.OnBuilder
import Derived.Still
import Derived.Tactics
import Derived.Test.YtopcleljecdkkaaDoorProg
import Derived.WalkKit
import Derived.WalkLawsBesides
import Derived.WalkSpells
import Derived.WideLaws
import Derived.Test.YtopcleljecdkkaaDoorZM1
import Derived.Test.YtopcleljecdkkaaDoorZM2
section
namespace Go.Proofs.YtopcleljecdkkaaDoor
set_option linter.unusedVariables false
set_option linter.unusedSimpArgs false
open Go.RowKit Kit Go.Proofs.YtopcleljecdkkaaDoorW.PrintWords
structure Sq where
  kind : Int
  priv : Int
  rows : List (List Int)
  inter : ByteArray
  fin : Int
  data : ByteArray
  deriving DecidableEq
def fSq (B : Nat) (q : Sq) : Fact := fSeq B q.kind q.priv q.rows q.inter q.fin q.data
theorem Stays.fSq (B : Nat) (q : Sq) : Stays (fSq B q) := stays_seq _ _ _ _ _ _ _
def Tells (f : FuncId) (args : Array Value) (q : Sq) (w : World) : Prop := ∀ W, Below w.heap.size w W → Calls Tryd.prog f args W fun e w' => ∃ v, e = .returned v ∧ fSq W.heap.size q v w' ∧ Below W.heap.size W w'
end Go.Proofs.YtopcleljecdkkaaDoor
end
section
namespace Go.Proofs.YtopcleljecdkkaaDoorW.PrintLast
open Go.Proofs.YtopcleljecdkkaaDoorW.PrintWords (Aside0)
def needsOf (md : Region.Mode) (o : Oper) : List Nat := (o.after.toList.filter (fun e => Region.binds md e)).map (fun e => e.on)
def clashOf (md : Region.Mode) (ops : Array Oper) (i : Nat) (oi : Oper) : List Nat := (List.range ops.size).filter fun j => !(j == i) && match ops[j]? with
  | some oj => !(oj.after.any (fun e => Region.binds md e && e.on == i) || oi.apart ops oj)
  | none => false
def rtab (md : Region.Mode) (ops : Array Oper) : Bool × List (List Nat × List Nat) := (Region.noSelect ops, (List.range ops.size).map fun i => match ops[i]? with
  | some o => (needsOf md o, clashOf md ops i o)
  | none => ([], []))
def readyAt (T : List (List Nat × List Nat)) (l : List Bool) (i : Nat) : Bool := !l.getD i true && match T[i]? with
  | some r => r.1.all (fun j => l.getD j false)
  | none => false
def readyT (T : List (List Nat × List Nat)) (l : List Bool) : List Nat := (List.range T.length).filter (readyAt T l)
def freeT (T : List (List Nat × List Nat)) (l : List Bool) (i : Nat) : Bool := match T[i]? with
  | some r => r.2.all (fun j => l.getD j true)
  | none => false
def closedT (T : List (List Nat × List Nat)) (l : List Bool) : Bool := (List.range T.length).all fun j => !l.getD j false || match T[j]? with
  | some r => r.1.all (fun k => l.getD k false)
  | none => true
def reachT (T : List (List Nat × List Nat)) (i : Nat) : Nat → Nat → Bool
  | 0, _ => false
  | fuel + 1, d => match T[d]? with
    | some r => r.1.any fun j => j == i || reachT T i fuel j
    | none => false
def lastT (T : List (List Nat × List Nat)) (l : List Bool) (ds : List Nat) (i : Nat) : Bool := ds.all fun d => l.getD d true || reachT T i T.length d
section
variable {md : Region.Mode} {ops : Array Oper} {T : Bool × List (List Nat × List Nat)} {l l' li lj lk : Array Bool} {ds : List Nat} {i j k : Nat}
theorem gd (l : Array Bool) (j : Nat) (b : Bool) : l.getD j b = l.toList.getD j b := by simp [Array.getD_eq_getD_getElem?, List.getD_eq_getElem?_getD]
theorem needs_all (o : Oper) (p : Nat → Bool) : o.after.all (fun e => !Region.binds md e || p e.on) = (needsOf md o).all p := by
  unfold needsOf
  rw [← Array.all_toList]
  induction o.after.toList with
  | nil => rfl
  | cons e r ih =>
    rw [List.all_cons, ih, List.filter_cons]
    cases h : Region.binds md e <;> simp
theorem needs_any (o : Oper) (p : Nat → Bool) : o.after.any (fun e => Region.binds md e && p e.on) = (needsOf md o).any p := by
  unfold needsOf
  rw [← Array.any_toList]
  induction o.after.toList with
  | nil => rfl
  | cons e r ih =>
    rw [List.any_cons, ih, List.filter_cons]
    cases h : Region.binds md e <;> simp
theorem rtab_length : (rtab md ops).2.length = ops.size := by simp [rtab]
theorem rtab_some {o : Oper} (h : ops[i]? = some o) : (rtab md ops).2[i]? = some (needsOf md o, clashOf md ops i o) := by
  have hi := (Array.getElem?_eq_some_iff.1 h).1
  unfold rtab
  rw [List.getElem?_map, List.getElem?_range hi, Option.map_some, h]
theorem rtab_none (h : ops[i]? = none) : (rtab md ops).2[i]? = none := by
  have hi : ops.size ≤ i := Array.getElem?_eq_none_iff.1 h
  exact List.getElem?_eq_none (by rw [rtab_length]; exact hi)
theorem readyAt_eq : readyAt (rtab md ops).2 l.toList i = (!l.getD i true && ((ops[i]?).map (·.after.all fun e => !Region.binds md e || l.getD e.on false)).getD false) := by
  unfold readyAt
  rw [gd]
  cases h : ops[i]? with
  | none => rw [rtab_none h]; rfl
  | some o =>
    rw [rtab_some h]
    simp only [Option.map_some, Option.getD_some]
    rw [← needs_all]
    simp only [gd]
theorem ready_eq : Region.ready md ops l = readyT (rtab md ops).2 l.toList := by
  unfold Region.ready readyT
  rw [rtab_length]
  refine List.filter_congr (fun i _ => ?_)
  rw [readyAt_eq]
theorem free_eq : Region.free md ops l i = freeT (rtab md ops).2 l.toList i := by
  unfold Region.free freeT
  cases h : ops[i]? with
  | none => rw [rtab_none h]
  | some oi =>
    rw [rtab_some h]
    simp only [clashOf]
    rw [List.all_filter]
    congr 1
    funext j
    rw [gd]
    cases hj : ops[j]? with
    | none => cases (j == i) <;> cases (l.toList.getD j true) <;> simp
    | some oj =>
      cases (j == i) <;> cases (l.toList.getD j true) <;> cases (oj.after.any (fun e => Region.binds md e && e.on == i) || oi.apart ops oj) <;> simp_all
theorem closed_eq : Region.closedB md ops l = closedT (rtab md ops).2 l.toList := by
  unfold Region.closedB closedT
  rw [rtab_length]
  congr 1
  funext j
  rw [gd]
  cases h : ops[j]? with
  | none => rw [rtab_none h]
  | some o =>
    rw [rtab_some h]
    simp only
    rw [← needs_all]
    simp only [gd]
theorem reach_eq : ∀ (fuel d : Nat), Region.reachB md ops i fuel d = reachT (rtab md ops).2 i fuel d
  | 0, _ => rfl
  | fuel + 1, d => by
    unfold Region.reachB reachT
    cases h : ops[d]? with
    | none => rw [rtab_none h]
    | some o =>
      rw [rtab_some h]
      simp only
      rw [← needs_any]
      congr 1
      funext e
      rw [reach_eq fuel]
theorem last_eq : Region.lastB md ops l ds i = lastT (rtab md ops).2 l.toList ds i := by
  unfold Region.lastB lastT
  rw [rtab_length]
  congr 1
  funext d
  rw [gd, reach_eq]
theorem readyAt_mem (h : readyAt T.2 l.toList i = true) (hT : rtab md ops = T) : (Region.ready md ops l).contains i = true := by
  subst hT
  rw [ready_eq]
  unfold readyT
  rw [List.contains_iff_mem, List.mem_filter, List.mem_range]
  refine ⟨?_, h⟩
  unfold readyAt at h
  rw [Bool.and_eq_true] at h
  cases hq : (rtab md ops).2[i]? with
  | none => rw [hq] at h; simp at h
  | some r => exact (List.getElem?_eq_some_iff.1 hq).1
theorem set_of (h : (l.toList.set i true == l'.toList) = true) : (l.setIfInBounds i true == l') = true := by
  rw [beq_iff_eq] at h ⊢
  apply Array.ext'
  rw [Array.toList_setIfInBounds]
  exact h
def anyT (T : Bool × List (List Nat × List Nat)) (l l' : List Bool) (i : Nat) : Bool := T.1 && freeT T.2 l i && readyAt T.2 l i && (l.set i true == l')
theorem any_of (hT : rtab md ops = T) (h : anyT T l.toList l'.toList i = true) : anyB md ops l l' i = true := by
  simp only [anyT, Bool.and_eq_true] at h
  obtain ⟨⟨⟨h1, h2⟩, h3⟩, h4⟩ := h
  have h5 := readyAt_mem h3 hT
  have h6 := set_of h4
  subst hT
  simp only [anyB, Bool.and_eq_true]
  exact ⟨⟨⟨h1, by rw [free_eq]; exact h2⟩, h5⟩, h6⟩
def takeT (T : Bool × List (List Nat × List Nat)) (ds : List Nat) (l l' : List Bool) (i : Nat) : Bool := T.1 && freeT T.2 l i && readyAt T.2 l i && closedT T.2 l && lastT T.2 l ds i && (l.set i true == l')
theorem take_of (hT : rtab md ops = T) (h : takeT T ds l.toList l'.toList i = true) : takeB md ops ds l l' i = true := by
  simp only [takeT, Bool.and_eq_true] at h
  obtain ⟨⟨⟨⟨⟨h1, h2⟩, h3⟩, h4⟩, h5⟩, h6⟩ := h
  have h7 := readyAt_mem h3 hT
  have h8 := set_of h6
  subst hT
  simp only [takeB, Bool.and_eq_true]
  exact ⟨⟨⟨⟨⟨h1, by rw [free_eq]; exact h2⟩, h7⟩, by rw [closed_eq]; exact h4⟩, by rw [last_eq]; exact h5⟩, h8⟩
theorem one_of (hT : rtab md ops = T) (h : (readyT T.2 l.toList == [i] && l.toList.set i true == l'.toList) = true) : readyB md ops l l' i = true := by
  simp only [Bool.and_eq_true] at h
  obtain ⟨h1, h2⟩ := h
  subst hT
  simp only [readyB, Bool.and_eq_true]
  exact ⟨by rw [ready_eq]; exact h1, set_of h2⟩
theorem done_of (hT : rtab md ops = T) (h : (readyT T.2 l.toList == []) = true) : (Region.ready md ops l == []) = true := by
  subst hT
  rw [ready_eq]
  exact h
def upM (B : List Nat) (d : Nat) : List Nat → Nat
  | [] => 0
  | n :: r => (2 ^ n ||| (if n < d then B.getD n 0 else 0)) ||| upM B d r
def waitsOk (T : List (List Nat × List Nat)) (B : List Nat) : Bool := (List.range T.length).all fun d => match T[d]? with
  | some r => (B.getD d 0 ||| upM B d r.1) == upM B d r.1
  | none => false
theorem upM_bit {B : List Nat} {d i : Nat} : ∀ {ns : List Nat}, (upM B d ns).testBit i = true → ∃ n ∈ ns, n = i ∨ (n < d ∧ (B.getD n 0).testBit i = true)
  | [], h => by simp [upM] at h
  | n :: r, h => by
    unfold upM at h
    rw [Nat.testBit_or, Nat.testBit_or, Bool.or_eq_true, Bool.or_eq_true] at h
    rcases h with (h | h) | h
    · rw [Nat.testBit_two_pow] at h
      exact ⟨n, List.mem_cons_self, .inl (by simpa using h)⟩
    · by_cases hn : n < d
      · rw [if_pos hn] at h
        exact ⟨n, List.mem_cons_self, .inr ⟨hn, h⟩⟩
      · rw [if_neg hn] at h
        simp at h
    · obtain ⟨m, hm, h2⟩ := upM_bit h
      exact ⟨m, List.mem_cons_of_mem _ hm, h2⟩
theorem reach_bit {T : List (List Nat × List Nat)} {B : List Nat} (hB : waitsOk T B = true) : ∀ (fuel d : Nat), d < fuel → d < T.length → (B.getD d 0).testBit i = true → reachT T i fuel d = true
  | 0, d, h, _, _ => by omega
  | fuel + 1, d, h, hd, hb => by
    have h1 := List.all_eq_true.1 hB d (List.mem_range.2 hd)
    cases hr : T[d]? with
    | none => rw [hr] at h1; simp at h1
    | some r =>
      rw [hr] at h1
      simp only [beq_iff_eq] at h1
      have h2 : (upM B d r.1).testBit i = true := by rw [← h1, Nat.testBit_or, hb, Bool.true_or]
      obtain ⟨n, hn, h3⟩ := upM_bit h2
      unfold reachT
      rw [hr]
      simp only
      rw [List.any_eq_true]
      refine ⟨n, hn, ?_⟩
      rcases h3 with rfl | ⟨h4, h5⟩
      · simp
      · rw [reach_bit hB fuel n (by omega) (by omega) h5, Bool.or_true]
def lastW (T : List (List Nat × List Nat)) (B : List Nat) (l : List Bool) (ds : List Nat) (i : Nat) : Bool := ds.all fun d => l.getD d true || (decide (d < T.length) && (B.getD d 0).testBit i)
def takeW (T : Bool × List (List Nat × List Nat)) (B : List Nat) (ds : List Nat) (l l' : List Bool) (i : Nat) : Bool := T.1 && freeT T.2 l i && readyAt T.2 l i && closedT T.2 l && lastW T.2 B l ds i && (l.set i true == l')
theorem take_ofW {B : List Nat} (hT : rtab md ops = T) (hB : waitsOk T.2 B = true) (h : takeW T B ds l.toList l'.toList i = true) : takeB md ops ds l l' i = true := by
  refine take_of hT ?_
  simp only [takeW, takeT, Bool.and_eq_true] at h ⊢
  obtain ⟨⟨⟨⟨⟨h1, h2⟩, h3⟩, h4⟩, h5⟩, h6⟩ := h
  refine ⟨⟨⟨⟨⟨h1, h2⟩, h3⟩, h4⟩, ?_⟩, h6⟩
  unfold lastW at h5
  unfold lastT
  rw [List.all_eq_true] at h5 ⊢
  intro d hd
  have h7 := h5 d hd
  rw [Bool.or_eq_true, Bool.and_eq_true, decide_eq_true_eq] at h7
  rcases h7 with h7 | ⟨h8, h9⟩
  · rw [h7, Bool.true_or]
  · rw [reach_bit hB _ d h8 h8 h9, Bool.or_true]
theorem with_tabW {P : Program} {Q : Exit → Act → World → Prop} {S : World → Prop} {n : Nat} {a : Act} {w : World} {B : List Nat} (hT : rtab md ops = T) (hB : waitsOk T.2 B = true) (h : Aside0 (rtab md ops = T) → Aside0 (waitsOk T.2 B = true) → wpAnyLast P md ops Q S ds n l a w) : wpAnyLast P md ops Q S ds n l a w := h ⟨hT⟩ ⟨hB⟩
end
def opsIn : Code → Nat → Option (Array Oper)
  | .region id ops _, k => if id == k then some ops else none
  | .seq a b, k => match opsIn a k with
    | some o => some o
    | none => opsIn b k
  | .cond _ a b, k => match opsIn a k with
    | some o => some o
    | none => opsIn b k
  | .block _ c, k => opsIn c k
  | .loop c, k => opsIn c k
  | .scope c, k => opsIn c k
  | .rangeFunc _ _ a b, k => match opsIn a k with
    | some o => some o
    | none => opsIn b k
  | _, _ => none
def opsOf (f : Func) (k : Nat) : Array Oper := ((f.body.bind fun c => opsIn c k)).getD #[]
end Go.Proofs.YtopcleljecdkkaaDoorW.PrintLast
end
section
namespace Go.Proofs.YtopcleljecdkkaaDoorW.PrintWords
open Go.RowKit
section
variable {w w' u : World} {m B g : Nat} {o : Obj} {row : Option Nat} {S : Nat → Prop} {a : Addr} {v : Value}
theorem cell_at (hq : w.drewN m = w') (h : w.cell? a = some v) : w'.cell? a = some v := by subst hq; exact h
end
end Go.Proofs.YtopcleljecdkkaaDoorW.PrintWords
end
section
namespace Go.Proofs.YtopcleljecdkkaaDoorW.PrintWords
theorem Reps.one {α : Type} {R : α → List Value → Prop} {ps : List α} {cs : List Value} {p : α} {v : Value} (hp : R p [v]) (h : Reps R 1 ps cs) : Reps R 1 (p :: ps) (v :: cs) := by
  refine ⟨by simp [h.1], fun j q hq => ?_⟩
  cases j with
  | zero =>
    simp only [List.getElem?_cons_zero, Option.some.injEq] at hq
    subst hq
    simpa using hp
  | succ j =>
    simp only [List.getElem?_cons_succ] at hq
    have h1 := h.2 j q hq
    simpa [Nat.mul_one] using h1
theorem Reps.front {α : Type} {R : α → List Value → Prop} {size : Nat} {ps : List α} {cs c all : List Value} {p : α} (hp : R p c) (hc : c.length = size) (h : Reps R size ps cs) (ha : c ++ cs = all) : Reps R size (p :: ps) all := by
  subst ha
  refine ⟨by rw [List.length_append, hc, h.1, List.length_cons, Nat.succ_mul, Nat.add_comm], fun j q hq => ?_⟩
  cases j with
  | zero =>
    simp only [List.getElem?_cons_zero, Option.some.injEq] at hq
    subst hq
    rw [Nat.zero_mul, List.drop_zero, List.take_append_of_le_length (by omega), List.take_of_length_le (by omega)]
    exact hp
  | succ j =>
    simp only [List.getElem?_cons_succ] at hq
    have h1 := h.2 j q hq
    rw [Nat.succ_mul, List.drop_append, List.drop_of_length_le (by rw [hc]; exact Nat.le_add_left _ _), List.nil_append, hc, Nat.add_sub_cancel]
    exact h1
theorem Reps.c2 {α : Type} {R : α → List Value → Prop} {ps : List α} {cs : List Value} {p : α} {va vb : Value} (hp : R p [va, vb]) (h : Reps R 2 ps cs) : Reps R 2 (p :: ps) (va :: vb :: cs) := Reps.front hp rfl h rfl
theorem Reps.c3 {α : Type} {R : α → List Value → Prop} {ps : List α} {cs : List Value} {p : α} {va vb vc : Value} (hp : R p [va, vb, vc]) (h : Reps R 3 ps cs) : Reps R 3 (p :: ps) (va :: vb :: vc :: cs) := Reps.front hp rfl h rfl
theorem Reps.c4 {α : Type} {R : α → List Value → Prop} {ps : List α} {cs : List Value} {p : α} {va vb vc vd : Value} (hp : R p [va, vb, vc, vd]) (h : Reps R 4 ps cs) : Reps R 4 (p :: ps) (va :: vb :: vc :: vd :: cs) := Reps.front hp rfl h rfl
theorem Reps.c5 {α : Type} {R : α → List Value → Prop} {ps : List α} {cs : List Value} {p : α} {va vb vc vd ve : Value} (hp : R p [va, vb, vc, vd, ve]) (h : Reps R 5 ps cs) : Reps R 5 (p :: ps) (va :: vb :: vc :: vd :: ve :: cs) := Reps.front hp rfl h rfl
theorem Reps.c6 {α : Type} {R : α → List Value → Prop} {ps : List α} {cs : List Value} {p : α} {va vb vc vd ve vf : Value} (hp : R p [va, vb, vc, vd, ve, vf]) (h : Reps R 6 ps cs) : Reps R 6 (p :: ps) (va :: vb :: vc :: vd :: ve :: vf :: cs) := Reps.front hp rfl h rfl
theorem Reps.c7 {α : Type} {R : α → List Value → Prop} {ps : List α} {cs : List Value} {p : α} {va vb vc vd ve vf vg : Value} (hp : R p [va, vb, vc, vd, ve, vf, vg]) (h : Reps R 7 ps cs) : Reps R 7 (p :: ps) (va :: vb :: vc :: vd :: ve :: vf :: vg :: cs) := Reps.front hp rfl h rfl
theorem Reps.c8 {α : Type} {R : α → List Value → Prop} {ps : List α} {cs : List Value} {p : α} {va vb vc vd ve vf vg vh : Value} (hp : R p [va, vb, vc, vd, ve, vf, vg, vh]) (h : Reps R 8 ps cs) : Reps R 8 (p :: ps) (va :: vb :: vc :: vd :: ve :: vf :: vg :: vh :: cs) := Reps.front hp rfl h rfl
theorem Reps.c9 {α : Type} {R : α → List Value → Prop} {ps : List α} {cs : List Value} {p : α} {va vb vc vd ve vf vg vh vi : Value} (hp : R p [va, vb, vc, vd, ve, vf, vg, vh, vi]) (h : Reps R 9 ps cs) : Reps R 9 (p :: ps) (va :: vb :: vc :: vd :: ve :: vf :: vg :: vh :: vi :: cs) := Reps.front hp rfl h rfl
theorem Reps.c10 {α : Type} {R : α → List Value → Prop} {ps : List α} {cs : List Value} {p : α} {va vb vc vd ve vf vg vh vi vj : Value} (hp : R p [va, vb, vc, vd, ve, vf, vg, vh, vi, vj]) (h : Reps R 10 ps cs) : Reps R 10 (p :: ps) (va :: vb :: vc :: vd :: ve :: vf :: vg :: vh :: vi :: vj :: cs) := Reps.front hp rfl h rfl
end Go.Proofs.YtopcleljecdkkaaDoorW.PrintWords
end
section
namespace Go.Proofs.YtopcleljecdkkaaDoorW.PrintLast
section
variable {P : Program} {ops : Array Oper} {Q : Exit → Act → World → Prop} {md : Region.Mode} {T : Bool × List (List Nat × List Nat)} {B : List Nat} {O : List Nat} {b : Nat → Bool} {i j n : Nat}
def Closed (T : List (List Nat × List Nat)) (O : List Nat) (b : Nat → Bool) : Prop := ∀ d r, T[d]? = some r → O.contains d = true → b d = true → ∀ n ∈ r.1, O.contains n = true → b n = true
theorem put_comm {a : Act} {s t : Tmp} {u v : Value} (h : s ≠ t) : (a.put (some s) u).put (some t) v = (a.put (some t) v).put (some s) u := by
  simp only [Act.put]
  rw [Array.setIfInBounds_comm _ _ h]
end
end Go.Proofs.YtopcleljecdkkaaDoorW.PrintLast
end
section
namespace Go.Proofs.YtopcleljecdkkaaDoorW.PrintWords
open Go.RowKit
section
variable {P : Program} {ops : Array Oper} {rest : List Oper} {o : Oper} {a : Act} {Q : Exit → Act → World → Prop} {W : World}
theorem gate_guard (hw : Region.wanted o (yielded ops a.tmps) = true) (h : wpList P ops Q ({ o with guard := none } :: rest) a W) : wpList P ops Q (o :: rest) a W := by
  have h1 : Region.wanted { o with guard := none } (yielded ops a.tmps) = true := rfl
  unfold wpList at h ⊢
  rw [if_pos h1] at h
  rw [if_pos hw]
  exact h
end
end Go.Proofs.YtopcleljecdkkaaDoorW.PrintWords
end
section
namespace Go.Proofs.YtopcleljecdkkaaDoor
def ptrAt (b : Nat) (i : Option Nat) : Value := .pointer (i.map fun i => ⟨b, i, none⟩)
end Go.Proofs.YtopcleljecdkkaaDoor
end
section
namespace Go.Proofs.YtopcleljecdkkaaDoor
set_option linter.unusedVariables false
set_option linter.unusedSimpArgs false
set_option maxRecDepth 100000
open Go.RowKit Kit
attribute [local irreducible] wpList Calls
def marksT (b : Nat) : List (Value × Value) :=
  [(.int .i64 1, ptrAt b (some 0)), (.int .i64 2, ptrAt b (some 1)), (.int .i64 3, ptrAt b (some 2)), (.int .i64 5, ptrAt b (some 3)), (.int .i64 7, ptrAt b (some 4)), (.int .i64 8, ptrAt b (some 5)), (.int .i64 9, ptrAt b (some 6))]
theorem marks_keys (b : Nat) : ((marksT b).map (·.1)).Nodup := by simp [marksT]
theorem marks_key (b : Nat) : ∀ p ∈ marksT b, MapKept.IsKey (.int .i64) p.1 := by simp [marksT, MapKept.IsKey]
theorem marks_calls (b : Nat) (w : World) :
    Calls Tryd.prog 56 #[.pointer (some ⟨b, 0, none⟩)] w fun e w' => e = .returned (.map (some w.heap.size)) ∧ Below w.heap.size w w' ∧ HoldsMap w' w.heap.size (marksT b) := by
  go_enter Tryd.func56, Tryd.ntmps56
  go_wp2
  have hok : LitsOk (.int .i64) [(4, Value.int .i64 1, ptrAt b (some 0)), (8, Value.int .i64 2, ptrAt b (some 1)), (12, Value.int .i64 3, ptrAt b (some 2)), (16, Value.int .i64 5, ptrAt b (some 3)), (20, Value.int .i64 7, ptrAt b (some 4)), (24, Value.int .i64 8, ptrAt b (some 5)), (28, Value.int .i64 9, ptrAt b (some 6))] 0 := ⟨by simp, by simp, by simp [MapKept.IsKey], by simp⟩
  have HOK := Lib.hid hok
  clear hok
  refine wp_region_fixed (by kernel_rfl) (by kernel_rfl) (fun i => [Value.map (some w.heap.size), Value.pointer (some ⟨b, 0, none⟩), Value.pointer (some ⟨b, 0, none⟩), Value.pointer (some ⟨b, 0, none⟩), undef, Value.pointer (some ⟨b, 0, none⟩), Value.pointer (some ⟨b, 0, none⟩), Value.pointer (some ⟨b, 1, none⟩), undef, Value.pointer (some ⟨b, 0, none⟩), Value.pointer (some ⟨b, 0, none⟩), Value.pointer (some ⟨b, 2, none⟩), undef, Value.pointer (some ⟨b, 0, none⟩), Value.pointer (some ⟨b, 0, none⟩), Value.pointer (some ⟨b, 3, none⟩), undef, Value.pointer (some ⟨b, 0, none⟩), Value.pointer (some ⟨b, 0, none⟩), Value.pointer (some ⟨b, 4, none⟩), undef, Value.pointer (some ⟨b, 0, none⟩), Value.pointer (some ⟨b, 0, none⟩), Value.pointer (some ⟨b, 5, none⟩), undef, Value.pointer (some ⟨b, 0, none⟩), Value.pointer (some ⟨b, 0, none⟩), Value.pointer (some ⟨b, 6, none⟩), undef, Value.map (some w.heap.size), Value.map (some w.heap.size)].getD i undef) (LitMap w.drew [(4, Value.int .i64 1, ptrAt b (some 0)), (8, Value.int .i64 2, ptrAt b (some 1)), (12, Value.int .i64 3, ptrAt b (some 2)), (16, Value.int .i64 5, ptrAt b (some 3)), (20, Value.int .i64 7, ptrAt b (some 4)), (24, Value.int .i64 8, ptrAt b (some 5)), (28, Value.int .i64 9, ptrAt b (some 6))] 0) LitMap.start ?_
  intro A hA
  simp [fillL, dstOf, List.range, List.range.loop, Act.put] at hA
  subst hA
  refine ⟨?steps, ?fin⟩
  case steps =>
    refine ⟨?_, ?_, ?_, ?_, ?_, ?_, ?_, ?_, ?_, ?_, ?_, ?_, ?_, ?_, ?_, ?_, ?_, ?_, ?_, ?_, ?_, ?_, ?_, ?_, ?_, ?_, ?_, ?_, ?_, ?_, ?_, trivial⟩
    all_goals intro js w1 hni hdep hC
    case refine_1 => exact hC.step_make HOK.out rfl rfl hni
    all_goals first
      | exact hC.step_insert HOK.out Tryd.underlying74 Tryd.underlying3 rfl rfl rfl rfl rfl (hdep 0 (by kernel_rfl)) hni (by first | exact .head _ | exact .tail _ (.head _) | exact .tail _ (.tail _ (.head _)) | exact .tail _ (.tail _ (.tail _ (.head _))) | exact .tail _ (.tail _ (.tail _ (.tail _ (.head _)))) | exact .tail _ (.tail _ (.tail _ (.tail _ (.tail _ (.head _))))) | exact .tail _ (.tail _ (.tail _ (.tail _ (.tail _ (.tail _ (.head _)))))))
      | exact hC.step_light rfl (by simp only [execOp]; first | (go_simp; done) | (go_simp; rfl)) (by decide) (by simp)
  case fin =>
    intro js w1 hall hC
    obtain ⟨es, c, rfl, hp⟩ := hC.whole (hall 0 (by decide)) (by intro l hl; refine hall l.1 ?_; simp at hl; rcases hl with rfl | rfl | rfl | rfl | rfl | rfl | rfl <;> simp)
    have HP := Lib.hid hp
    clear hp
    go_wp2
    go_ret
    exact ⟨rfl, (Below.refl _ _).drew.alloc (Nat.le_refl _) _, es, c, heap_alloc_new _ _, HP.out⟩
def MarksAns (w : World) (b : Nat) (e : Ending) (w' : World) : Prop := ∃ g, e = .returned (.map (some g)) ∧ w.heap.size ≤ g ∧ Below w.heap.size w w' ∧ ∃ o, w'.heap[g]? = some o ∧ IsMapOf (marksT b) o
theorem marks_calls' (b : Nat) (w : World) : Calls Tryd.prog 56 #[.pointer (some ⟨b, 0, none⟩)] w (MarksAns w b) :=
  (marks_calls b w).mono fun e w' h => by
    obtain ⟨h1, h2, es, c, h3, h4⟩ := h
    exact ⟨_, h1, Nat.le_refl _, h2, _, h3, es, c, rfl, h4⟩
end Go.Proofs.YtopcleljecdkkaaDoor
end
section
namespace Go.Proofs.YtopcleljecdkkaaDoor
set_option linter.unusedVariables false
set_option linter.unusedSimpArgs false
def colL (n : Int) : Bool := decide (-1 ≤ n) && decide (n < 16777472)
def mayL (u f b : Int) : Bool := decide (0 ≤ u) && (decide (u ≤ 5) && (colL f && colL b))
def tintL (n base : Int) : List Int :=
  if n < 8 then [base + n] else if n < 16 then [base + 52 + n] else if n < 256 then [base + 8, 5, n]
  else [base + 8, 2, -1, (n - 256) / 65536, (n - 256) / 256 % 256, (n - 256) % 256]
def markL (b : Bool) (n : Int) : List (List Int) := if b then [[n]] else []
def underL (u : Int) : List (List Int) := if u = 1 then [[4]] else if 1 < u then [[4, u]] else []
def colourL (n base : Int) : List (List Int) := if n = -1 then [] else [tintL n base]
def paramsL (b0 b1 b2 b3 b4 b5 b6 : Bool) (u f b : Int) : List (List Int) :=
  [[0]] ++ markL b0 1 ++ markL b1 2 ++ markL b2 3 ++ underL u ++ markL b3 5 ++ markL b4 7 ++ markL b5 8 ++ markL b6 9 ++ colourL f 30 ++ colourL b 40
def at_ (l : List Int) (i : Nat) : Int := l[i]?.getD 0
end Go.Proofs.YtopcleljecdkkaaDoor
end
section
namespace Go.Proofs.YtopcleljecdkkaaDoor
set_option linter.unusedVariables false
open Go.RowKit Kit
def stV (b0 b1 b2 b3 b4 b5 b6 : Bool) (u f b : Int) : Value := .agg #[.bool b0, .bool b1, .bool b2, .bool b3, .bool b4, .bool b5, .bool b6, .int .i64 u, .int .i64 f, .int .i64 b]
end Go.Proofs.YtopcleljecdkkaaDoor
end
section
namespace Go.Proofs.YtopcleljecdkkaaDoor
set_option linter.unusedVariables false
set_option linter.unusedSimpArgs false
open Go.RowKit Kit Go.Proofs.YtopcleljecdkkaaDoorW.PrintWords Go.Proofs.YtopcleljecdkkaaDoorW.PrintMore
attribute [local irreducible] wpList Calls
theorem infoRows : (Tryd.prog.info? 52).map (fun i => (i.zero, i.size, i.bytes)) = some (some (.slice none 0 0), 1, 24) := by kernel_rfl
theorem parts_calls (v : Value) (w : World) : Calls Tryd.prog 57 #[v] w fun e w' => e = .returned v ∧ w' = w := by
  go_enter Tryd.func57, Tryd.ntmps57
  go_wp2
  go_ret
  exact ⟨rfl, rfl⟩
def partN (b0 b1 b2 b3 b4 b5 b6 : Bool) (u : Int) (n : Nat) : List (List Int) :=
  if n = 1 then markL b0 1 else if n = 2 then markL b1 2 else if n = 3 then markL b2 3 else if n = 4 then underL u else if n = 5 then markL b3 5 else if n = 7 then markL b4 7 else if n = 8 then markL b5 8 else if n = 9 then markL b6 9 else []
def upTo (b0 b1 b2 b3 b4 b5 b6 : Bool) (u : Int) : Nat → List (List Int)
  | 0 => [[0]]
  | n + 1 => upTo b0 b1 b2 b3 b4 b5 b6 u n ++ partN b0 b1 b2 b3 b4 b5 b6 u n
theorem upTo_len (b0 b1 b2 b3 b4 b5 b6 : Bool) (u : Int) (n : Nat) : (upTo b0 b1 b2 b3 b4 b5 b6 u n).length ≤ n + 1 := by
  induction n with
  | zero => simp [upTo]
  | succ n ih =>
    have h : (partN b0 b1 b2 b3 b4 b5 b6 u n).length ≤ 1 := by
      unfold partN markL underL
      repeat' split
      all_goals simp
    simp only [upTo, List.length_append]
    omega
theorem upTo_all (b0 b1 b2 b3 b4 b5 b6 : Bool) (u f b : Int) : upTo b0 b1 b2 b3 b4 b5 b6 u 10 ++ colourL f 30 ++ colourL b 40 = paramsL b0 b1 b2 b3 b4 b5 b6 u f b := by
  simp [upTo, partN, paramsL]
def TintAt (base n : Int) (r : List Int) : Prop :=
  ∀ W, Calls Tryd.prog 58 #[.int .i64 n, .int .i64 base] W fun e w' => ∃ v0 : Value, e = .returned v0 ∧ Kd.R (Kd.int .i64) 3 w' W.heap.size (fun _ => True) v0 r ∧ Below W.heap.size W w'
def MayAt (b0 b1 b2 b3 b4 b5 b6 : Bool) (u f b : Int) (r : Bool) : Prop :=
  ∀ W, Calls Tryd.prog 42 #[stV b0 b1 b2 b3 b4 b5 b6 u f b] W fun e w' => e = .returned (.bool r) ∧ Below W.heap.size W w'
def ParamsAns (w : World) (xs : List (List Int)) (e : Ending) (w' : World) : Prop :=
  ∃ v : Value, e = .returned v ∧ Kd.S (Kd.slice 3 (Kd.int .i64)) 52 w' w.heap.size (fun _ => True) v xs ∧ Below w.heap.size w w'
set_option maxRecDepth 100000 in
set_option maxHeartbeats 2000000 in
theorem params_not (b0 b1 b2 b3 b4 b5 b6 : Bool) (u f b : Int) (hm : MayAt b0 b1 b2 b3 b4 b5 b6 u f b false) (w : World) :
    Calls Tryd.prog 37 #[stV b0 b1 b2 b3 b4 b5 b6 u f b] w (ParamsAns w []) := by
  have HO := Mine.start w
  have HM := Lib.hid hm
  clear hm
  unfold stV MayAt at *
  go_enter Tryd.func37, Tryd.ntmps37
  go_wp2_with (first
      | (go_at_call 42; refine (HM.out _).mono ?_; rintro eN wN ⟨rfl, hbN⟩; have HON := HO.call hbN; clear HO hbN; have HO := HON; clear HON)
      | ((with_reducible refine gate ?_); (first
      | ((refine own_box HO rfl rfl rfl ?_); clear HO; intro gN wN hgN HO; (simp only [List.nil_append, List.cons_append] at HO); (try simp only [Act.put, List.setIfInBounds_toArray, List.set_cons_zero, List.set_cons_succ]))
      | ((refine own_alloc (T := 23) HO rfl rfl Tryd.zeroValue23 rfl ?_); clear HO; intro gN wN hgN HO; (simp only [List.nil_append, List.cons_append] at HO); (try simp only [Act.put, List.setIfInBounds_toArray, List.set_cons_zero, List.set_cons_succ]))
      | ((refine own_alloc (T := 3) HO rfl rfl Tryd.zeroValue3 rfl ?_); clear HO; intro gN wN hgN HO; (simp only [List.nil_append, List.cons_append] at HO); (try simp only [Act.put, List.setIfInBounds_toArray, List.set_cons_zero, List.set_cons_succ]))
      | ((refine own_alloc (T := 4) HO rfl rfl Tryd.zeroValue4 rfl ?_); clear HO; intro gN wN hgN HO; (simp only [List.nil_append, List.cons_append] at HO); (try simp only [Act.put, List.setIfInBounds_toArray, List.set_cons_zero, List.set_cons_succ]))
      | ((refine own_load (T := 23) HO rfl rfl rfl (by first | exact .head _ | exact .tail _ (.head _) | exact .tail _ (.tail _ (.head _)) | exact .tail _ (.tail _ (.tail _ (.head _))) | exact .tail _ (.tail _ (.tail _ (.tail _ (.head _)))) | exact .tail _ (.tail _ (.tail _ (.tail _ (.tail _ (.head _)))))) Tryd.isAgg23 Tryd.sizeOf23 (by repeat constructor) ?_); (try simp only [Act.put, List.setIfInBounds_toArray, List.set_cons_zero, List.set_cons_succ]))
      | ((refine own_load1 (T := 3) HO rfl rfl rfl (by first | exact .head _ | exact .tail _ (.head _) | exact .tail _ (.tail _ (.head _)) | exact .tail _ (.tail _ (.tail _ (.head _))) | exact .tail _ (.tail _ (.tail _ (.tail _ (.head _)))) | exact .tail _ (.tail _ (.tail _ (.tail _ (.tail _ (.head _)))))) Tryd.isAgg3 rfl ?_); (try simp only [Act.put, List.setIfInBounds_toArray, List.set_cons_zero, List.set_cons_succ]))
      | ((refine own_load1 (T := 4) HO rfl rfl rfl (by first | exact .head _ | exact .tail _ (.head _) | exact .tail _ (.tail _ (.head _)) | exact .tail _ (.tail _ (.tail _ (.head _))) | exact .tail _ (.tail _ (.tail _ (.tail _ (.head _)))) | exact .tail _ (.tail _ (.tail _ (.tail _ (.tail _ (.head _)))))) Tryd.isAgg4 rfl ?_); (try simp only [Act.put, List.setIfInBounds_toArray, List.set_cons_zero, List.set_cons_succ]))
      | ((refine own_store (T := 23) HO rfl rfl rfl rfl (by first | exact .here | exact .there (.here) | exact .there (.there (.here)) | exact .there (.there (.there (.here))) | exact .there (.there (.there (.there (.here)))) | exact .there (.there (.there (.there (.there (.here)))))) Tryd.sizeOf23 (by repeat constructor) rfl ?_); clear HO; intro wN HO; (try simp only [Act.put, List.setIfInBounds_toArray, List.set_cons_zero, List.set_cons_succ]))
      | ((refine own_store (T := 3) HO rfl rfl rfl rfl (by first | exact .here | exact .there (.here) | exact .there (.there (.here)) | exact .there (.there (.there (.here))) | exact .there (.there (.there (.there (.here)))) | exact .there (.there (.there (.there (.there (.here)))))) Tryd.sizeOf3 (by repeat constructor) rfl ?_); clear HO; intro wN HO; (try simp only [Act.put, List.setIfInBounds_toArray, List.set_cons_zero, List.set_cons_succ]))
      | ((refine own_store (T := 4) HO rfl rfl rfl rfl (by first | exact .here | exact .there (.here) | exact .there (.there (.here)) | exact .there (.there (.there (.here))) | exact .there (.there (.there (.there (.here)))) | exact .there (.there (.there (.there (.there (.here)))))) Tryd.sizeOf4 (by repeat constructor) rfl ?_); clear HO; intro wN HO; (try simp only [Act.put, List.setIfInBounds_toArray, List.set_cons_zero, List.set_cons_succ])))))
  go_ret
  exact ⟨_, rfl, Kd.S_nil _ _ _ _ _, HO.below⟩
set_option maxRecDepth 100000 in
set_option maxHeartbeats 16000000 in
theorem params_yes (b0 b1 b2 b3 b4 b5 b6 : Bool) (u f b : Int) (hu : 0 ≤ u) (hm : MayAt b0 b1 b2 b3 b4 b5 b6 u f b true) (hf : f ≠ -1 → TintAt 30 f (tintL f 30)) (hb : b ≠ -1 → TintAt 40 b (tintL b 40)) (w : World) :
    Calls Tryd.prog 37 #[stV b0 b1 b2 b3 b4 b5 b6 u f b] w (ParamsAns w (paramsL b0 b1 b2 b3 b4 b5 b6 u f b)) := by
  have HO := Mine.start w
  have HM := Lib.hid hm
  have HTF := Lib.hid hf
  have HTB := Lib.hid hb
  have HU := Lib.hid hu
  clear hm hf hb
  unfold stV MayAt at *
  go_enter Tryd.func37, Tryd.ntmps37
  go_wp2_with (first
      | (go_at_call 42; refine (HM.out _).mono ?_; rintro eN wN ⟨rfl, hbN⟩; have HON := HO.call hbN; clear HO hbN; have HO := HON; clear HON)
      | (go_at_call 56; refine (marks_calls' gB _).mono ?_; rintro e wN ⟨gM, rfl, hgN, hbN, hoN⟩; have HRN := HR.adopt hbN hgN hoN; clear HR hbN hgN hoN; have HR := HRN; clear HRN; simp only [List.nil_append, List.cons_append] at HR)
      | ((with_reducible refine gate ?_); (first
      | ((with_reducible refine gate_dst (N := 9) rfl ?_); (have HR := Rows2.start HO); clear HO; refine rows_lit [0] HR rfl (N := 9) rfl (by first | (go_simp; done) | (go_simp; rfl)) (by simp) ?_; clear HR; intro aR cR wN HR)
      | ((with_reducible refine gate_dst (N := 10) rfl ?_); refine rows_one HR rfl (N := 10) rfl (by first | (go_simp; done) | (go_simp; rfl)) ?_; clear HR; intro vL wN HR)
      | ((refine own_box HO rfl rfl rfl ?_); clear HO; intro gB wN hgN HO; (simp only [List.nil_append, List.cons_append] at HO); (try simp only [Act.put, List.setIfInBounds_toArray, List.set_cons_zero, List.set_cons_succ]))
      | ((refine own_alloc (T := 23) HO rfl rfl Tryd.zeroValue23 rfl ?_); clear HO; intro gN wN hgN HO; (simp only [List.nil_append, List.cons_append] at HO); (try simp only [Act.put, List.setIfInBounds_toArray, List.set_cons_zero, List.set_cons_succ]))
      | ((refine own_alloc (T := 3) HO rfl rfl Tryd.zeroValue3 rfl ?_); clear HO; intro gN wN hgN HO; (simp only [List.nil_append, List.cons_append] at HO); (try simp only [Act.put, List.setIfInBounds_toArray, List.set_cons_zero, List.set_cons_succ]))
      | ((refine own_alloc (T := 4) HO rfl rfl Tryd.zeroValue4 rfl ?_); clear HO; intro gN wN hgN HO; (simp only [List.nil_append, List.cons_append] at HO); (try simp only [Act.put, List.setIfInBounds_toArray, List.set_cons_zero, List.set_cons_succ]))
      | ((refine own_load (T := 23) HO rfl rfl rfl (by first | exact .head _ | exact .tail _ (.head _) | exact .tail _ (.tail _ (.head _)) | exact .tail _ (.tail _ (.tail _ (.head _))) | exact .tail _ (.tail _ (.tail _ (.tail _ (.head _)))) | exact .tail _ (.tail _ (.tail _ (.tail _ (.tail _ (.head _)))))) Tryd.isAgg23 Tryd.sizeOf23 (by repeat constructor) ?_); (try simp only [Act.put, List.setIfInBounds_toArray, List.set_cons_zero, List.set_cons_succ]))
      | ((refine own_load1 (T := 3) HO rfl rfl rfl (by first | exact .head _ | exact .tail _ (.head _) | exact .tail _ (.tail _ (.head _)) | exact .tail _ (.tail _ (.tail _ (.head _))) | exact .tail _ (.tail _ (.tail _ (.tail _ (.head _)))) | exact .tail _ (.tail _ (.tail _ (.tail _ (.tail _ (.head _)))))) Tryd.isAgg3 rfl ?_); (try simp only [Act.put, List.setIfInBounds_toArray, List.set_cons_zero, List.set_cons_succ]))
      | ((refine own_load1 (T := 4) HO rfl rfl rfl (by first | exact .head _ | exact .tail _ (.head _) | exact .tail _ (.tail _ (.head _)) | exact .tail _ (.tail _ (.tail _ (.head _))) | exact .tail _ (.tail _ (.tail _ (.tail _ (.head _)))) | exact .tail _ (.tail _ (.tail _ (.tail _ (.tail _ (.head _)))))) Tryd.isAgg4 rfl ?_); (try simp only [Act.put, List.setIfInBounds_toArray, List.set_cons_zero, List.set_cons_succ]))
      | ((refine own_store (T := 23) HO rfl rfl rfl rfl (by first | exact .here | exact .there (.here) | exact .there (.there (.here)) | exact .there (.there (.there (.here))) | exact .there (.there (.there (.there (.here)))) | exact .there (.there (.there (.there (.there (.here)))))) Tryd.sizeOf23 (by repeat constructor) rfl ?_); clear HO; intro wN HO; (try simp only [Act.put, List.setIfInBounds_toArray, List.set_cons_zero, List.set_cons_succ]))
      | ((refine own_store (T := 3) HO rfl rfl rfl rfl (by first | exact .here | exact .there (.here) | exact .there (.there (.here)) | exact .there (.there (.there (.here))) | exact .there (.there (.there (.there (.here)))) | exact .there (.there (.there (.there (.there (.here)))))) Tryd.sizeOf3 (by repeat constructor) rfl ?_); clear HO; intro wN HO; (try simp only [Act.put, List.setIfInBounds_toArray, List.set_cons_zero, List.set_cons_succ]))
      | ((refine own_store (T := 4) HO rfl rfl rfl rfl (by first | exact .here | exact .there (.here) | exact .there (.there (.here)) | exact .there (.there (.there (.here))) | exact .there (.there (.there (.there (.here)))) | exact .there (.there (.there (.there (.there (.here)))))) Tryd.sizeOf4 (by repeat constructor) rfl ?_); clear HO; intro wN HO; (try simp only [Act.put, List.setIfInBounds_toArray, List.set_cons_zero, List.set_cons_succ])))))
  go_loopw [3, 5] (fun v i wr => ∃ (n : Nat) (z : Int), 1 ≤ n ∧ n ≤ 10 ∧ z = (n : Int) ∧ i = .int .i64 z ∧ Rows2 w wr [(gB, IsCells [.bool b0, .bool b1, .bool b2, .bool b3, .bool b4, .bool b5, .bool b6, .int .i64 u, .int .i64 f, .int .i64 b] 23), (gM, IsMapOf (marksT gB))] v (upTo b0 b1 b2 b3 b4 b5 b6 u n)) (fun _ i _ => 10 - (intOf i).toNat)
  case atStart => exact ⟨1, 1, by omega, by omega, rfl, rfl, by rw [show upTo b0 b1 b2 b3 b4 b5 b6 u 1 = [[0]] from rfl]; exact HR⟩
  case round =>
    obtain ⟨n, z, h1, h10, hz, rfl, HRn⟩ := hrel
    clear HR
    have HR := HRn
    clear HRn
    have HLEN : Hid ((upTo b0 b1 b2 b3 b4 b5 b6 u n).length ≤ 1000000) := Lib.hid (by have := upTo_len b0 b1 b2 b3 b4 b5 b6 u n; omega)
    by_cases hlt : n < 10
    · obtain rfl | rfl | rfl | rfl | rfl | rfl | rfl | rfl | rfl : n = 1 ∨ n = 2 ∨ n = 3 ∨ n = 4 ∨ n = 5 ∨ n = 6 ∨ n = 7 ∨ n = 8 ∨ n = 9 := by omega
      · obtain rfl : z = 1 := hz
        have HSAY : Hid (Says (marksT gB) (.int .i64 1) (.pointer none) (.pointer (some ⟨gB, 0, none⟩)) true) := Lib.hid (.hit _ (by simp [marksT, ptrAt]))
        cases b0
        · go_wp2_with (first
          | ((refine own_lookup (mt := 74) HR.mine rfl rfl rfl (by first | exact .const | exact .tmp rfl | exact .func) Tryd.underlying74 Tryd.underlying3 Tryd.zeroValue78 (by exact .tail _ (.head _)) (marks_keys gB) (marks_key gB) (by first | exact rfl | exact trivial) HSAY.out ?_); (try simp only [Act.put, List.setIfInBounds_toArray, List.set_cons_zero, List.set_cons_succ]))
          | ((refine own_load1 (T := 4) HR.mine rfl rfl rfl (by exact .head _) Tryd.isAgg4 rfl ?_); (try simp only [Act.put, List.setIfInBounds_toArray, List.set_cons_zero, List.set_cons_succ])))
          go_roundw
          case rel => exact ⟨2, 2, by omega, by omega, rfl, rfl, by rw [show upTo false b1 b2 b3 b4 b5 b6 u 2 = upTo false b1 b2 b3 b4 b5 b6 u 1 from by simp [upTo, partN, markL, underL]]; exact HR⟩
          case measure => simp [intOf]
        · go_wp2_with (first
          | (go_at_call 57; refine (parts_calls _ _).mono ?_; rintro e w' ⟨rfl, rfl⟩)
          | ((with_reducible refine gate_dst (N := 58) rfl ?_); refine rows_lit [1] HR rfl (N := 58) rfl (by first | (go_simp; done) | (go_simp; rfl)) (by simp) ?_; clear HR; intro aR cR wN HR)
          | (at_builtin; refine rows_push HR rfl _ _ 28 rfl Tryd.underlying28 infoRows rfl rfl HLEN.out ?_; clear HR; intro vN wN HR)
          | ((refine own_lookup (mt := 74) HR.mine rfl rfl rfl (by first | exact .const | exact .tmp rfl | exact .func) Tryd.underlying74 Tryd.underlying3 Tryd.zeroValue78 (by exact .tail _ (.head _)) (marks_keys gB) (marks_key gB) (by first | exact rfl | exact trivial) HSAY.out ?_); (try simp only [Act.put, List.setIfInBounds_toArray, List.set_cons_zero, List.set_cons_succ]))
          | ((refine own_load1 (T := 4) HR.mine rfl rfl rfl (by exact .head _) Tryd.isAgg4 rfl ?_); (try simp only [Act.put, List.setIfInBounds_toArray, List.set_cons_zero, List.set_cons_succ])))
          go_roundw
          case rel => exact ⟨2, 2, by omega, by omega, rfl, rfl, by rw [show upTo true b1 b2 b3 b4 b5 b6 u 2 = upTo true b1 b2 b3 b4 b5 b6 u 1 ++ [[1]] from by simp [upTo, partN, markL, underL]]; exact HR⟩
          case measure => simp [intOf]
      · obtain rfl : z = 2 := hz
        have HSAY : Hid (Says (marksT gB) (.int .i64 2) (.pointer none) (.pointer (some ⟨gB, 1, none⟩)) true) := Lib.hid (.hit _ (by simp [marksT, ptrAt]))
        cases b1
        · go_wp2_with (first
          | ((refine own_lookup (mt := 74) HR.mine rfl rfl rfl (by first | exact .const | exact .tmp rfl | exact .func) Tryd.underlying74 Tryd.underlying3 Tryd.zeroValue78 (by exact .tail _ (.head _)) (marks_keys gB) (marks_key gB) (by first | exact rfl | exact trivial) HSAY.out ?_); (try simp only [Act.put, List.setIfInBounds_toArray, List.set_cons_zero, List.set_cons_succ]))
          | ((refine own_load1 (T := 4) HR.mine rfl rfl rfl (by exact .head _) Tryd.isAgg4 rfl ?_); (try simp only [Act.put, List.setIfInBounds_toArray, List.set_cons_zero, List.set_cons_succ])))
          go_roundw
          case rel => exact ⟨3, 3, by omega, by omega, rfl, rfl, by rw [show upTo b0 false b2 b3 b4 b5 b6 u 3 = upTo b0 false b2 b3 b4 b5 b6 u 2 from by simp [upTo, partN, markL, underL]]; exact HR⟩
          case measure => simp [intOf]
        · go_wp2_with (first
          | (go_at_call 57; refine (parts_calls _ _).mono ?_; rintro e w' ⟨rfl, rfl⟩)
          | ((with_reducible refine gate_dst (N := 58) rfl ?_); refine rows_lit [2] HR rfl (N := 58) rfl (by first | (go_simp; done) | (go_simp; rfl)) (by simp) ?_; clear HR; intro aR cR wN HR)
          | (at_builtin; refine rows_push HR rfl _ _ 28 rfl Tryd.underlying28 infoRows rfl rfl HLEN.out ?_; clear HR; intro vN wN HR)
          | ((refine own_lookup (mt := 74) HR.mine rfl rfl rfl (by first | exact .const | exact .tmp rfl | exact .func) Tryd.underlying74 Tryd.underlying3 Tryd.zeroValue78 (by exact .tail _ (.head _)) (marks_keys gB) (marks_key gB) (by first | exact rfl | exact trivial) HSAY.out ?_); (try simp only [Act.put, List.setIfInBounds_toArray, List.set_cons_zero, List.set_cons_succ]))
          | ((refine own_load1 (T := 4) HR.mine rfl rfl rfl (by exact .head _) Tryd.isAgg4 rfl ?_); (try simp only [Act.put, List.setIfInBounds_toArray, List.set_cons_zero, List.set_cons_succ])))
          go_roundw
          case rel => exact ⟨3, 3, by omega, by omega, rfl, rfl, by rw [show upTo b0 true b2 b3 b4 b5 b6 u 3 = upTo b0 true b2 b3 b4 b5 b6 u 2 ++ [[2]] from by simp [upTo, partN, markL, underL]]; exact HR⟩
          case measure => simp [intOf]
      · obtain rfl : z = 3 := hz
        have HSAY : Hid (Says (marksT gB) (.int .i64 3) (.pointer none) (.pointer (some ⟨gB, 2, none⟩)) true) := Lib.hid (.hit _ (by simp [marksT, ptrAt]))
        cases b2
        · go_wp2_with (first
          | ((refine own_lookup (mt := 74) HR.mine rfl rfl rfl (by first | exact .const | exact .tmp rfl | exact .func) Tryd.underlying74 Tryd.underlying3 Tryd.zeroValue78 (by exact .tail _ (.head _)) (marks_keys gB) (marks_key gB) (by first | exact rfl | exact trivial) HSAY.out ?_); (try simp only [Act.put, List.setIfInBounds_toArray, List.set_cons_zero, List.set_cons_succ]))
          | ((refine own_load1 (T := 4) HR.mine rfl rfl rfl (by exact .head _) Tryd.isAgg4 rfl ?_); (try simp only [Act.put, List.setIfInBounds_toArray, List.set_cons_zero, List.set_cons_succ])))
          go_roundw
          case rel => exact ⟨4, 4, by omega, by omega, rfl, rfl, by rw [show upTo b0 b1 false b3 b4 b5 b6 u 4 = upTo b0 b1 false b3 b4 b5 b6 u 3 from by simp [upTo, partN, markL, underL]]; exact HR⟩
          case measure => simp [intOf]
        · go_wp2_with (first
          | (go_at_call 57; refine (parts_calls _ _).mono ?_; rintro e w' ⟨rfl, rfl⟩)
          | ((with_reducible refine gate_dst (N := 58) rfl ?_); refine rows_lit [3] HR rfl (N := 58) rfl (by first | (go_simp; done) | (go_simp; rfl)) (by simp) ?_; clear HR; intro aR cR wN HR)
          | (at_builtin; refine rows_push HR rfl _ _ 28 rfl Tryd.underlying28 infoRows rfl rfl HLEN.out ?_; clear HR; intro vN wN HR)
          | ((refine own_lookup (mt := 74) HR.mine rfl rfl rfl (by first | exact .const | exact .tmp rfl | exact .func) Tryd.underlying74 Tryd.underlying3 Tryd.zeroValue78 (by exact .tail _ (.head _)) (marks_keys gB) (marks_key gB) (by first | exact rfl | exact trivial) HSAY.out ?_); (try simp only [Act.put, List.setIfInBounds_toArray, List.set_cons_zero, List.set_cons_succ]))
          | ((refine own_load1 (T := 4) HR.mine rfl rfl rfl (by exact .head _) Tryd.isAgg4 rfl ?_); (try simp only [Act.put, List.setIfInBounds_toArray, List.set_cons_zero, List.set_cons_succ])))
          go_roundw
          case rel => exact ⟨4, 4, by omega, by omega, rfl, rfl, by rw [show upTo b0 b1 true b3 b4 b5 b6 u 4 = upTo b0 b1 true b3 b4 b5 b6 u 3 ++ [[3]] from by simp [upTo, partN, markL, underL]]; exact HR⟩
          case measure => simp [intOf]
      · obtain rfl : z = 4 := hz
        have HSAY : Hid (Says (marksT gB) (.int .i64 4) (.pointer none) (.pointer none) false) := Lib.hid (.miss (by simp [marksT]))
        by_cases hu1 : u = 1
        · have q1 : (u == 1) = true := beq_iff_eq.2 hu1
          have q2 : decide (1 < u) = false := decide_eq_false (by omega)
          have HU1 := Lib.hid hu1
          clear hu1
          go_wp2_with (first
          | (go_at_call 57; refine (parts_calls _ _).mono ?_; rintro e w' ⟨rfl, rfl⟩)
          | ((with_reducible refine gate_dst (N := 25) rfl ?_); refine rows_lit [4] HR rfl (N := 25) rfl (by first | (go_simp; done) | (go_simp; rfl)) (by simp) ?_; clear HR; intro aR cR wN HR)
          | (at_builtin; refine rows_push HR rfl _ _ 28 rfl Tryd.underlying28 infoRows rfl rfl HLEN.out ?_; clear HR; intro vN wN HR)
          | ((refine own_lookup (mt := 74) HR.mine rfl rfl rfl (by first | exact .const | exact .tmp rfl | exact .func) Tryd.underlying74 Tryd.underlying3 Tryd.zeroValue78 (by exact .tail _ (.head _)) (marks_keys gB) (marks_key gB) (by first | exact rfl | exact trivial) HSAY.out ?_); (try simp only [Act.put, List.setIfInBounds_toArray, List.set_cons_zero, List.set_cons_succ]))
          | ((refine own_load1 (T := 3) HR.mine rfl rfl rfl (by exact .head _) Tryd.isAgg3 rfl ?_); (try simp only [Act.put, List.setIfInBounds_toArray, List.set_cons_zero, List.set_cons_succ])))
          go_roundw
          case rel => exact ⟨5, 5, by omega, by omega, rfl, rfl, by rw [show upTo b0 b1 b2 b3 b4 b5 b6 u 5 = upTo b0 b1 b2 b3 b4 b5 b6 u 4 ++ [[4]] from by simp [upTo, partN, markL, underL, HU1.out]]; exact HR⟩
          case measure => simp [intOf]
        · have q1 : (u == 1) = false := beq_eq_false_iff_ne.2 hu1
          by_cases hu2 : 1 < u
          · have q2 : decide (1 < u) = true := decide_eq_true hu2
            have HU1 := Lib.hid hu1
            have HU2 := Lib.hid hu2
            clear hu1 hu2
            go_wp2_with (first
          | (go_at_call 57; refine (parts_calls _ _).mono ?_; rintro e w' ⟨rfl, rfl⟩)
          | ((with_reducible refine gate_dst (N := 40) rfl ?_); refine rows_lit [4, u] HR rfl (N := 40) rfl (by first | (go_simp; done) | (go_simp; rfl)) (by simp) ?_; clear HR; intro aR cR wN HR)
          | (at_builtin; refine rows_push HR rfl _ _ 28 rfl Tryd.underlying28 infoRows rfl rfl HLEN.out ?_; clear HR; intro vN wN HR)
          | ((refine own_lookup (mt := 74) HR.mine rfl rfl rfl (by first | exact .const | exact .tmp rfl | exact .func) Tryd.underlying74 Tryd.underlying3 Tryd.zeroValue78 (by exact .tail _ (.head _)) (marks_keys gB) (marks_key gB) (by first | exact rfl | exact trivial) HSAY.out ?_); (try simp only [Act.put, List.setIfInBounds_toArray, List.set_cons_zero, List.set_cons_succ]))
          | ((refine own_load1 (T := 3) HR.mine rfl rfl rfl (by exact .head _) Tryd.isAgg3 rfl ?_); (try simp only [Act.put, List.setIfInBounds_toArray, List.set_cons_zero, List.set_cons_succ])))
            go_roundw
            case rel => exact ⟨5, 5, by omega, by omega, rfl, rfl, by rw [show upTo b0 b1 b2 b3 b4 b5 b6 u 5 = upTo b0 b1 b2 b3 b4 b5 b6 u 4 ++ [[4, u]] from by simp [upTo, partN, markL, underL, HU1.out, HU2.out]]; exact HR⟩
            case measure => simp [intOf]
          · have q2 : decide (1 < u) = false := decide_eq_false hu2
            have HU1 := Lib.hid hu1
            have HU2 := Lib.hid hu2
            clear hu1 hu2
            go_wp2_with (first
          | ((refine own_lookup (mt := 74) HR.mine rfl rfl rfl (by first | exact .const | exact .tmp rfl | exact .func) Tryd.underlying74 Tryd.underlying3 Tryd.zeroValue78 (by exact .tail _ (.head _)) (marks_keys gB) (marks_key gB) (by first | exact rfl | exact trivial) HSAY.out ?_); (try simp only [Act.put, List.setIfInBounds_toArray, List.set_cons_zero, List.set_cons_succ]))
          | ((refine own_load1 (T := 4) HR.mine rfl rfl rfl (by exact .head _) Tryd.isAgg4 rfl ?_); (try simp only [Act.put, List.setIfInBounds_toArray, List.set_cons_zero, List.set_cons_succ]))
          | ((refine own_load1 (T := 3) HR.mine rfl rfl rfl (by exact .head _) Tryd.isAgg3 rfl ?_); (try simp only [Act.put, List.setIfInBounds_toArray, List.set_cons_zero, List.set_cons_succ])))
            go_roundw
            case rel => exact ⟨5, 5, by omega, by omega, rfl, rfl, by rw [show upTo b0 b1 b2 b3 b4 b5 b6 u 5 = upTo b0 b1 b2 b3 b4 b5 b6 u 4 from by simp [upTo, partN, markL, underL, HU1.out, HU2.out]]; exact HR⟩
            case measure => simp [intOf]
      · obtain rfl : z = 5 := hz
        have HSAY : Hid (Says (marksT gB) (.int .i64 5) (.pointer none) (.pointer (some ⟨gB, 3, none⟩)) true) := Lib.hid (.hit _ (by simp [marksT, ptrAt]))
        cases b3
        · go_wp2_with (first
          | ((refine own_lookup (mt := 74) HR.mine rfl rfl rfl (by first | exact .const | exact .tmp rfl | exact .func) Tryd.underlying74 Tryd.underlying3 Tryd.zeroValue78 (by exact .tail _ (.head _)) (marks_keys gB) (marks_key gB) (by first | exact rfl | exact trivial) HSAY.out ?_); (try simp only [Act.put, List.setIfInBounds_toArray, List.set_cons_zero, List.set_cons_succ]))
          | ((refine own_load1 (T := 4) HR.mine rfl rfl rfl (by exact .head _) Tryd.isAgg4 rfl ?_); (try simp only [Act.put, List.setIfInBounds_toArray, List.set_cons_zero, List.set_cons_succ])))
          go_roundw
          case rel => exact ⟨6, 6, by omega, by omega, rfl, rfl, by rw [show upTo b0 b1 b2 false b4 b5 b6 u 6 = upTo b0 b1 b2 false b4 b5 b6 u 5 from by simp [upTo, partN, markL, underL]]; exact HR⟩
          case measure => simp [intOf]
        · go_wp2_with (first
          | (go_at_call 57; refine (parts_calls _ _).mono ?_; rintro e w' ⟨rfl, rfl⟩)
          | ((with_reducible refine gate_dst (N := 58) rfl ?_); refine rows_lit [5] HR rfl (N := 58) rfl (by first | (go_simp; done) | (go_simp; rfl)) (by simp) ?_; clear HR; intro aR cR wN HR)
          | (at_builtin; refine rows_push HR rfl _ _ 28 rfl Tryd.underlying28 infoRows rfl rfl HLEN.out ?_; clear HR; intro vN wN HR)
          | ((refine own_lookup (mt := 74) HR.mine rfl rfl rfl (by first | exact .const | exact .tmp rfl | exact .func) Tryd.underlying74 Tryd.underlying3 Tryd.zeroValue78 (by exact .tail _ (.head _)) (marks_keys gB) (marks_key gB) (by first | exact rfl | exact trivial) HSAY.out ?_); (try simp only [Act.put, List.setIfInBounds_toArray, List.set_cons_zero, List.set_cons_succ]))
          | ((refine own_load1 (T := 4) HR.mine rfl rfl rfl (by exact .head _) Tryd.isAgg4 rfl ?_); (try simp only [Act.put, List.setIfInBounds_toArray, List.set_cons_zero, List.set_cons_succ])))
          go_roundw
          case rel => exact ⟨6, 6, by omega, by omega, rfl, rfl, by rw [show upTo b0 b1 b2 true b4 b5 b6 u 6 = upTo b0 b1 b2 true b4 b5 b6 u 5 ++ [[5]] from by simp [upTo, partN, markL, underL]]; exact HR⟩
          case measure => simp [intOf]
      · obtain rfl : z = 6 := hz
        have HSAY : Hid (Says (marksT gB) (.int .i64 6) (.pointer none) (.pointer none) false) := Lib.hid (.miss (by simp [marksT]))
        go_wp2_with (first
          | ((refine own_lookup (mt := 74) HR.mine rfl rfl rfl (by first | exact .const | exact .tmp rfl | exact .func) Tryd.underlying74 Tryd.underlying3 Tryd.zeroValue78 (by exact .tail _ (.head _)) (marks_keys gB) (marks_key gB) (by first | exact rfl | exact trivial) HSAY.out ?_); (try simp only [Act.put, List.setIfInBounds_toArray, List.set_cons_zero, List.set_cons_succ]))
          | ((refine own_load1 (T := 4) HR.mine rfl rfl rfl (by exact .head _) Tryd.isAgg4 rfl ?_); (try simp only [Act.put, List.setIfInBounds_toArray, List.set_cons_zero, List.set_cons_succ])))
        go_roundw
        case rel => exact ⟨7, 7, by omega, by omega, rfl, rfl, by rw [show upTo b0 b1 b2 b3 b4 b5 b6 u 7 = upTo b0 b1 b2 b3 b4 b5 b6 u 6 from by simp [upTo, partN, markL, underL]]; exact HR⟩
        case measure => simp [intOf]
      · obtain rfl : z = 7 := hz
        have HSAY : Hid (Says (marksT gB) (.int .i64 7) (.pointer none) (.pointer (some ⟨gB, 4, none⟩)) true) := Lib.hid (.hit _ (by simp [marksT, ptrAt]))
        cases b4
        · go_wp2_with (first
          | ((refine own_lookup (mt := 74) HR.mine rfl rfl rfl (by first | exact .const | exact .tmp rfl | exact .func) Tryd.underlying74 Tryd.underlying3 Tryd.zeroValue78 (by exact .tail _ (.head _)) (marks_keys gB) (marks_key gB) (by first | exact rfl | exact trivial) HSAY.out ?_); (try simp only [Act.put, List.setIfInBounds_toArray, List.set_cons_zero, List.set_cons_succ]))
          | ((refine own_load1 (T := 4) HR.mine rfl rfl rfl (by exact .head _) Tryd.isAgg4 rfl ?_); (try simp only [Act.put, List.setIfInBounds_toArray, List.set_cons_zero, List.set_cons_succ])))
          go_roundw
          case rel => exact ⟨8, 8, by omega, by omega, rfl, rfl, by rw [show upTo b0 b1 b2 b3 false b5 b6 u 8 = upTo b0 b1 b2 b3 false b5 b6 u 7 from by simp [upTo, partN, markL, underL]]; exact HR⟩
          case measure => simp [intOf]
        · go_wp2_with (first
          | (go_at_call 57; refine (parts_calls _ _).mono ?_; rintro e w' ⟨rfl, rfl⟩)
          | ((with_reducible refine gate_dst (N := 58) rfl ?_); refine rows_lit [7] HR rfl (N := 58) rfl (by first | (go_simp; done) | (go_simp; rfl)) (by simp) ?_; clear HR; intro aR cR wN HR)
          | (at_builtin; refine rows_push HR rfl _ _ 28 rfl Tryd.underlying28 infoRows rfl rfl HLEN.out ?_; clear HR; intro vN wN HR)
          | ((refine own_lookup (mt := 74) HR.mine rfl rfl rfl (by first | exact .const | exact .tmp rfl | exact .func) Tryd.underlying74 Tryd.underlying3 Tryd.zeroValue78 (by exact .tail _ (.head _)) (marks_keys gB) (marks_key gB) (by first | exact rfl | exact trivial) HSAY.out ?_); (try simp only [Act.put, List.setIfInBounds_toArray, List.set_cons_zero, List.set_cons_succ]))
          | ((refine own_load1 (T := 4) HR.mine rfl rfl rfl (by exact .head _) Tryd.isAgg4 rfl ?_); (try simp only [Act.put, List.setIfInBounds_toArray, List.set_cons_zero, List.set_cons_succ])))
          go_roundw
          case rel => exact ⟨8, 8, by omega, by omega, rfl, rfl, by rw [show upTo b0 b1 b2 b3 true b5 b6 u 8 = upTo b0 b1 b2 b3 true b5 b6 u 7 ++ [[7]] from by simp [upTo, partN, markL, underL]]; exact HR⟩
          case measure => simp [intOf]
      · obtain rfl : z = 8 := hz
        have HSAY : Hid (Says (marksT gB) (.int .i64 8) (.pointer none) (.pointer (some ⟨gB, 5, none⟩)) true) := Lib.hid (.hit _ (by simp [marksT, ptrAt]))
        cases b5
        · go_wp2_with (first
          | ((refine own_lookup (mt := 74) HR.mine rfl rfl rfl (by first | exact .const | exact .tmp rfl | exact .func) Tryd.underlying74 Tryd.underlying3 Tryd.zeroValue78 (by exact .tail _ (.head _)) (marks_keys gB) (marks_key gB) (by first | exact rfl | exact trivial) HSAY.out ?_); (try simp only [Act.put, List.setIfInBounds_toArray, List.set_cons_zero, List.set_cons_succ]))
          | ((refine own_load1 (T := 4) HR.mine rfl rfl rfl (by exact .head _) Tryd.isAgg4 rfl ?_); (try simp only [Act.put, List.setIfInBounds_toArray, List.set_cons_zero, List.set_cons_succ])))
          go_roundw
          case rel => exact ⟨9, 9, by omega, by omega, rfl, rfl, by rw [show upTo b0 b1 b2 b3 b4 false b6 u 9 = upTo b0 b1 b2 b3 b4 false b6 u 8 from by simp [upTo, partN, markL, underL]]; exact HR⟩
          case measure => simp [intOf]
        · go_wp2_with (first
          | (go_at_call 57; refine (parts_calls _ _).mono ?_; rintro e w' ⟨rfl, rfl⟩)
          | ((with_reducible refine gate_dst (N := 58) rfl ?_); refine rows_lit [8] HR rfl (N := 58) rfl (by first | (go_simp; done) | (go_simp; rfl)) (by simp) ?_; clear HR; intro aR cR wN HR)
          | (at_builtin; refine rows_push HR rfl _ _ 28 rfl Tryd.underlying28 infoRows rfl rfl HLEN.out ?_; clear HR; intro vN wN HR)
          | ((refine own_lookup (mt := 74) HR.mine rfl rfl rfl (by first | exact .const | exact .tmp rfl | exact .func) Tryd.underlying74 Tryd.underlying3 Tryd.zeroValue78 (by exact .tail _ (.head _)) (marks_keys gB) (marks_key gB) (by first | exact rfl | exact trivial) HSAY.out ?_); (try simp only [Act.put, List.setIfInBounds_toArray, List.set_cons_zero, List.set_cons_succ]))
          | ((refine own_load1 (T := 4) HR.mine rfl rfl rfl (by exact .head _) Tryd.isAgg4 rfl ?_); (try simp only [Act.put, List.setIfInBounds_toArray, List.set_cons_zero, List.set_cons_succ])))
          go_roundw
          case rel => exact ⟨9, 9, by omega, by omega, rfl, rfl, by rw [show upTo b0 b1 b2 b3 b4 true b6 u 9 = upTo b0 b1 b2 b3 b4 true b6 u 8 ++ [[8]] from by simp [upTo, partN, markL, underL]]; exact HR⟩
          case measure => simp [intOf]
      · obtain rfl : z = 9 := hz
        have HSAY : Hid (Says (marksT gB) (.int .i64 9) (.pointer none) (.pointer (some ⟨gB, 6, none⟩)) true) := Lib.hid (.hit _ (by simp [marksT, ptrAt]))
        cases b6
        · go_wp2_with (first
          | ((refine own_lookup (mt := 74) HR.mine rfl rfl rfl (by first | exact .const | exact .tmp rfl | exact .func) Tryd.underlying74 Tryd.underlying3 Tryd.zeroValue78 (by exact .tail _ (.head _)) (marks_keys gB) (marks_key gB) (by first | exact rfl | exact trivial) HSAY.out ?_); (try simp only [Act.put, List.setIfInBounds_toArray, List.set_cons_zero, List.set_cons_succ]))
          | ((refine own_load1 (T := 4) HR.mine rfl rfl rfl (by exact .head _) Tryd.isAgg4 rfl ?_); (try simp only [Act.put, List.setIfInBounds_toArray, List.set_cons_zero, List.set_cons_succ])))
          go_roundw
          case rel => exact ⟨10, 10, by omega, by omega, rfl, rfl, by rw [show upTo b0 b1 b2 b3 b4 b5 false u 10 = upTo b0 b1 b2 b3 b4 b5 false u 9 from by simp [upTo, partN, markL, underL]]; exact HR⟩
          case measure => simp [intOf]
        · go_wp2_with (first
          | (go_at_call 57; refine (parts_calls _ _).mono ?_; rintro e w' ⟨rfl, rfl⟩)
          | ((with_reducible refine gate_dst (N := 58) rfl ?_); refine rows_lit [9] HR rfl (N := 58) rfl (by first | (go_simp; done) | (go_simp; rfl)) (by simp) ?_; clear HR; intro aR cR wN HR)
          | (at_builtin; refine rows_push HR rfl _ _ 28 rfl Tryd.underlying28 infoRows rfl rfl HLEN.out ?_; clear HR; intro vN wN HR)
          | ((refine own_lookup (mt := 74) HR.mine rfl rfl rfl (by first | exact .const | exact .tmp rfl | exact .func) Tryd.underlying74 Tryd.underlying3 Tryd.zeroValue78 (by exact .tail _ (.head _)) (marks_keys gB) (marks_key gB) (by first | exact rfl | exact trivial) HSAY.out ?_); (try simp only [Act.put, List.setIfInBounds_toArray, List.set_cons_zero, List.set_cons_succ]))
          | ((refine own_load1 (T := 4) HR.mine rfl rfl rfl (by exact .head _) Tryd.isAgg4 rfl ?_); (try simp only [Act.put, List.setIfInBounds_toArray, List.set_cons_zero, List.set_cons_succ])))
          go_roundw
          case rel => exact ⟨10, 10, by omega, by omega, rfl, rfl, by rw [show upTo b0 b1 b2 b3 b4 b5 true u 10 = upTo b0 b1 b2 b3 b4 b5 true u 9 ++ [[9]] from by simp [upTo, partN, markL, underL]]; exact HR⟩
          case measure => simp [intOf]
    · obtain rfl : n = 10 := by omega
      obtain rfl : z = 10 := hz
      have HLEN2 : Hid ((upTo b0 b1 b2 b3 b4 b5 b6 u 10).length ≤ 11) := Lib.hid (upTo_len b0 b1 b2 b3 b4 b5 b6 u 10)
      have HALL := Lib.hid (upTo_all b0 b1 b2 b3 b4 b5 b6 u f b)
      clear hlt
      by_cases hf1 : f = -1
      all_goals
        by_cases hb1 : b = -1
      · have HC1 : Hid (colourL f 30 = []) := Lib.hid (by unfold colourL; rw [if_pos hf1])
        have HC2 : Hid (colourL b 40 = []) := Lib.hid (by unfold colourL; rw [if_pos hb1])
        have qf : (f == -1) = true := beq_iff_eq.2 hf1
        have pf : (f != -1) = false := bne_eq_false_iff_eq.2 hf1
        have qb : (b == -1) = true := beq_iff_eq.2 hb1
        have pb : (b != -1) = false := bne_eq_false_iff_eq.2 hb1
        clear hf1 hb1
        go_wp2_with (first
          | ((refine own_load1 (T := 3) HR.mine rfl rfl rfl (by exact .head _) Tryd.isAgg3 rfl ?_); (try simp only [Act.put, List.setIfInBounds_toArray, List.set_cons_zero, List.set_cons_succ])))
        go_ret
        refine ⟨_, rfl, ?_, HR.mine.below⟩
        rw [← HALL.out, HC1.out, HC2.out, List.append_nil, List.append_nil]
        exact HR.rows
      · have HC1 : Hid (colourL f 30 = []) := Lib.hid (by unfold colourL; rw [if_pos hf1])
        have HC2 : Hid (colourL b 40 = [tintL b 40]) := Lib.hid (by unfold colourL; rw [if_neg hb1])
        have qf : (f == -1) = true := beq_iff_eq.2 hf1
        have pf : (f != -1) = false := bne_eq_false_iff_eq.2 hf1
        have qb : (b == -1) = false := beq_eq_false_iff_ne.2 hb1
        have pb : (b != -1) = true := bne_iff_ne.2 hb1
        have HT2 := Lib.hid (HTB.out hb1)
        clear hf1 hb1
        go_wp2_with (first
          | (go_at_call 58; refine (HT2.out _).mono ?_; rintro e wN ⟨v0, rfl, hrN, hbN⟩; obtain ⟨aR, cR, rfl⟩ := Kd.R_slice hrN; have HRN := HR.row hbN hrN; clear HR hrN hbN; have HR := HRN; clear HRN)
          | (at_builtin; refine rows_push HR rfl _ _ 28 rfl Tryd.underlying28 infoRows rfl rfl (by have hq := HLEN2.out; (try simp only [List.length_append, List.length_singleton]); omega) ?_; clear HR; intro vN wN HR)
          | ((refine own_load1 (T := 3) HR.mine rfl rfl rfl (by exact .head _) Tryd.isAgg3 rfl ?_); (try simp only [Act.put, List.setIfInBounds_toArray, List.set_cons_zero, List.set_cons_succ])))
        go_ret
        refine ⟨_, rfl, ?_, HR.mine.below⟩
        rw [← HALL.out, HC1.out, HC2.out, List.append_nil]
        exact HR.rows
      · have HC1 : Hid (colourL f 30 = [tintL f 30]) := Lib.hid (by unfold colourL; rw [if_neg hf1])
        have HC2 : Hid (colourL b 40 = []) := Lib.hid (by unfold colourL; rw [if_pos hb1])
        have qf : (f == -1) = false := beq_eq_false_iff_ne.2 hf1
        have pf : (f != -1) = true := bne_iff_ne.2 hf1
        have qb : (b == -1) = true := beq_iff_eq.2 hb1
        have pb : (b != -1) = false := bne_eq_false_iff_eq.2 hb1
        have HT1 := Lib.hid (HTF.out hf1)
        clear hf1 hb1
        go_wp2_with (first
          | (go_at_call 58; refine (HT1.out _).mono ?_; rintro e wN ⟨v0, rfl, hrN, hbN⟩; obtain ⟨aR, cR, rfl⟩ := Kd.R_slice hrN; have HRN := HR.row hbN hrN; clear HR hrN hbN; have HR := HRN; clear HRN)
          | (at_builtin; refine rows_push HR rfl _ _ 28 rfl Tryd.underlying28 infoRows rfl rfl (by have hq := HLEN2.out; (try simp only [List.length_append, List.length_singleton]); omega) ?_; clear HR; intro vN wN HR)
          | ((refine own_load1 (T := 3) HR.mine rfl rfl rfl (by exact .head _) Tryd.isAgg3 rfl ?_); (try simp only [Act.put, List.setIfInBounds_toArray, List.set_cons_zero, List.set_cons_succ])))
        go_ret
        refine ⟨_, rfl, ?_, HR.mine.below⟩
        rw [← HALL.out, HC1.out, HC2.out, List.append_nil]
        exact HR.rows
      · have HC1 : Hid (colourL f 30 = [tintL f 30]) := Lib.hid (by unfold colourL; rw [if_neg hf1])
        have HC2 : Hid (colourL b 40 = [tintL b 40]) := Lib.hid (by unfold colourL; rw [if_neg hb1])
        have qf : (f == -1) = false := beq_eq_false_iff_ne.2 hf1
        have pf : (f != -1) = true := bne_iff_ne.2 hf1
        have qb : (b == -1) = false := beq_eq_false_iff_ne.2 hb1
        have pb : (b != -1) = true := bne_iff_ne.2 hb1
        have HT1 := Lib.hid (HTF.out hf1)
        have HT2 := Lib.hid (HTB.out hb1)
        clear hf1 hb1
        go_wp2_with (first
          | (go_at_call 58; refine (HT1.out _).mono ?_; rintro e wN ⟨v0, rfl, hrN, hbN⟩; obtain ⟨aR, cR, rfl⟩ := Kd.R_slice hrN; have HRN := HR.row hbN hrN; clear HR hrN hbN; have HR := HRN; clear HRN)
          | (go_at_call 58; refine (HT2.out _).mono ?_; rintro e wN ⟨v0, rfl, hrN, hbN⟩; obtain ⟨aR, cR, rfl⟩ := Kd.R_slice hrN; have HRN := HR.row hbN hrN; clear HR hrN hbN; have HR := HRN; clear HRN)
          | (at_builtin; refine rows_push HR rfl _ _ 28 rfl Tryd.underlying28 infoRows rfl rfl (by have hq := HLEN2.out; (try simp only [List.length_append, List.length_singleton]); omega) ?_; clear HR; intro vN wN HR)
          | ((refine own_load1 (T := 3) HR.mine rfl rfl rfl (by exact .head _) Tryd.isAgg3 rfl ?_); (try simp only [Act.put, List.setIfInBounds_toArray, List.set_cons_zero, List.set_cons_succ])))
        go_ret
        refine ⟨_, rfl, ?_, HR.mine.below⟩
        rw [← HALL.out, HC1.out, HC2.out]
        exact HR.rows
end Go.Proofs.YtopcleljecdkkaaDoor
end
section
namespace Go.Proofs.YtopcleljecdkkaaDoor.Kit
set_option linter.unusedVariables false
set_option linter.unusedSimpArgs false
open Go Go.RowKit
variable {P : Program} {w : World}
def Marked (w : World) (B : Nat) (e : TypeId) (v : Value) (n : Nat) (xs : List Value) : Prop :=
  ∃ g cap cur fz, v = .slice (some ⟨g, 0, none⟩) n cap ∧ B ≤ g ∧ w.heap[g]? = some (.cells cur e fz) ∧ cur.size = cap ∧ cap ≤ fz.1 ∧ n ≤ cap ∧ cur.toList.take n = xs
theorem Marked.len {B : Nat} {e : TypeId} {v : Value} {n : Nat} {xs : List Value} (h : Marked w B e v n xs) : xs.length = n := by
  obtain ⟨g, cap, cur, fz, _, _, _, hc, _, hn, rfl⟩ := h
  rw [List.length_take, Array.length_toList]
  omega
end Go.Proofs.YtopcleljecdkkaaDoor.Kit
end
section
namespace Go.Proofs.YtopcleljecdkkaaDoor.Kit
set_option linter.unusedVariables false
set_option linter.unusedSimpArgs false
open Go Go.RowKit
variable {P : Program} {w : World}
def Row (w : World) (g n cap : Nat) (e : TypeId) (l : List UInt8) : Prop :=
  ∃ cur fz, w.heap[g]? = some (.cells cur e fz) ∧ cur.size = cap ∧ cap ≤ fz.1 ∧ n ≤ cap ∧ cur.toList.take n = l.map byV
theorem Row.len {g n cap : Nat} {e : TypeId} {l : List UInt8} (h : Row w g n cap e l) : l.length = n := by
  obtain ⟨cur, fz, _, hc, _, hn, ht⟩ := h
  have := congrArg List.length ht
  rw [List.length_take, Array.length_toList, List.length_map] at this
  omega
theorem Row.lt {g n cap : Nat} {e : TypeId} {l : List UInt8} (h : Row w g n cap e l) : g < w.heap.size := by
  obtain ⟨cur, fz, hg, _⟩ := h
  exact (Array.getElem?_eq_some_iff.1 hg).1
theorem Row.reads {g n cap : Nat} {e : TypeId} {l : List UInt8} (h : Row w g n cap e l) : Reads w (some ⟨g, 0, none⟩) (l.map byV) := by
  obtain ⟨cur, fz, hg, _, _, _, ht⟩ := h
  exact Reads.row hg ht
theorem Row.cell {g n cap : Nat} {e : TypeId} {l : List UInt8} (h : Row w g n cap e l) {i : Nat} (hi : i < n) : w.cell? ⟨g, i, none⟩ = some (.int .u8 ((l[i]?.getD 0).toNat : Int)) := by
  have hr := h.reads i (byV (l[i]?.getD 0)) (by rw [List.getElem?_map, List.getElem?_eq_getElem (by rw [h.len]; exact hi)]; rfl)
  obtain ⟨b, o, he, hc⟩ := hr
  cases he
  rw [Nat.zero_add] at hc
  exact hc
theorem Row.free {g n cap : Nat} {e : TypeId} {l : List UInt8} (h : Row w g n cap e l) {i : Nat} (hi : i < n) : w.frozen? ⟨g, i, none⟩ = false := by
  obtain ⟨cur, fz, hg, hc, hf, hn, ht⟩ := h
  simp only [World.frozen?, hg]
  simp
  omega
theorem Row.set {g n cap : Nat} {e : TypeId} {l : List UInt8} (h : Row w g n cap e l) {i : Nat} (hi : i < n) (c : UInt8) : Row (w.setCell ⟨g, i, none⟩ (.int .u8 (c.toNat : Int))) g n cap e (l.set i c) := by
  obtain ⟨cur, fz, hg, hc, hf, hn, ht⟩ := h
  refine ⟨cur.setIfInBounds i (.int .u8 (c.toNat : Int)), fz, ?_, by simpa using hc, hf, hn, ?_⟩
  · rw [setCell_eq_setRow w g i cur e fz _ hg]
    exact setRow_heap w g _ _ e fz hg
  · rw [Array.toList_setIfInBounds, List.take_set, ht, List.map_set]
    rfl
theorem Row.below {w' : World} {g n cap : Nat} {e : TypeId} {l : List UInt8} (h : Row w g n cap e l) (hb : Below w.heap.size w w') : Row w' g n cap e l := by
  have hl := h.lt
  obtain ⟨cur, fz, hg, hc, hf, hn, ht⟩ := h
  exact ⟨cur, fz, (hb.block g hl).trans hg, hc, hf, hn, ht⟩
theorem run_row_of {src dst e : TypeId} {s : ByteArray} (hs : P.underlying src = some .string) (hd : P.underlying dst = some (.slice e)) (he : P.underlying e = some (.int .u8)) (w : World) :
    ∃ c w', (convert src dst (.string s)).run P w = .ok (.slice (some ⟨w.heap.size, 0, none⟩) s.size c) w' ∧ Below w.heap.size w w' ∧ Row w' w.heap.size s.size c e s.data.toList := by
  have hc := grownCap_ge w s.size 0 e
  have hl : (s.data.toList.map byV).length = s.size := by rw [List.length_map, Array.length_toList]; rfl
  have hsz : (bytesRow s (grownCap w s.size 0 e)).size = grownCap w s.size 0 e := by
    simp only [bytesRow, Array.size_append, Array.size_map, Array.size_replicate]
    have : s.data.size = s.size := rfl
    omega
  refine ⟨_, _, run_bytes_of_string w src dst e s hs hd he, ((Below.refl _ w).drew).alloc (Nat.le_refl _) _, bytesRow s (grownCap w s.size 0 e), _, heap_alloc_new w.drew _, hsz, by rw [hsz]; exact Nat.le_refl _, hc, ?_⟩
  rw [← hl]
  simp only [bytesRow, Array.toList_append, Array.toList_map]
  exact List.take_left
end Go.Proofs.YtopcleljecdkkaaDoor.Kit
end
section
namespace Go.Proofs.YtopcleljecdkkaaDoor
set_option linter.unusedVariables false
set_option linter.unusedSimpArgs false
open Go.RowKit Kit Go.Proofs.YtopcleljecdkkaaDoorW.PrintWords
attribute [local irreducible] wpList Calls
def PutAns (bs : List UInt8) (w : World) (e : Ending) (w' : World) : Prop := ∃ p c, e = .returned (.tuple #[.slice p bs.length c, .int .i64 0]) ∧ bs.length ≤ c ∧ Reads w' p (bs.map byV) ∧ Below w.heap.size w w'
def SeqAt (f : FuncId) (s v : Value) (w : World) : Prop := ∀ W, Below w.heap.size w W → Calls Tryd.prog f #[s] W fun e w' => e = .returned v ∧ Below W.heap.size W w'
theorem conv_byte (x : Int) (h0 : 0 ≤ x) (h1 : x < 256) (b : Nat) (W : World) (h : W.heap[b]? = some (.cells [Value.int .u8 x].toArray 5 (0, 0))) :
    (convert 48 9 (.slice (some ⟨b, 0, none⟩) 1 1)).run Tryd.prog W = .ok (.string ⟨#[UInt8.ofNat x.toNat]⟩) W := by
  have e : byV (UInt8.ofNat x.toNat) = .int .u8 x := by
    unfold byV
    rw [UInt8.toNat_ofNat', Nat.mod_eq_of_lt (by omega)]
    congr 1
    omega
  have hr : Reads W (some ⟨b, 0, none⟩) ([UInt8.ofNat x.toNat].map byV) := by
    rw [List.map_cons, e]
    exact Reads.row h (n := 1) rfl
  exact run_str_of Tryd.underlying48 Tryd.underlying5 Tryd.underlying9 hr rfl
set_option maxRecDepth 100000 in
set_option maxHeartbeats 2000000 in
theorem put_csi (priv fin : Int) (vp : Value) (hvp : vp.cells = #[vp] ∧ vp.oneCell' = true) (inter data bd : ByteArray) (w : World) (h0 : 0 ≤ fin) (h1 : fin < 256) (hm : SeqAt 26 (seqV 1 priv vp inter fin data) (.int .i64 0) w) (hb : SeqAt 53 (seqV 1 priv vp inter fin data) (.string bd) w) (hz : bd.size ≤ 1000000) (bs : List UInt8) (hbs : bs = [27, 91] ++ bd.data.toList ++ [UInt8.ofNat fin.toNat]) :
    Calls Tryd.prog 27 #[seqV 1 priv vp inter fin data] w (PutAns bs w) := by
  have HO := Mine.start w
  have HM := Lib.hid hm
  have HB := Lib.hid hb
  obtain ⟨s1, hs1⟩ : ∃ s1 : ByteArray, s1 = ⟨#[27, 91]⟩ ++ bd := ⟨_, rfl⟩
  obtain ⟨s2, hs2⟩ : ∃ s2 : ByteArray, s2 = s1 ++ ⟨#[UInt8.ofNat fin.toNat]⟩ := ⟨_, rfl⟩
  have z1 : s1.size = 2 + bd.size := by rw [hs1, ByteArray.size_append]; rfl
  have z2 : s2.size = 3 + bd.size := by rw [hs2, ByteArray.size_append, z1]; have : (⟨#[UInt8.ofNat fin.toNat]⟩ : ByteArray).size = 1 := rfl; omega
  have hl : s2.data.toList = bs := by rw [hs2, hs1, hbs]; simp [ByteArray.data_append]
  have HSZ : Hid (s2.size = bs.length) := Lib.hid (by rw [← hl, Array.length_toList]; rfl)
  have hadd1 : ∀ W, (Op.stringOp .add ⟨#[27, 91]⟩ bd).run Tryd.prog W = .ok (.string s1) W := fun W => by rw [hs1]; exact cat_run _ _ (by have : (⟨#[27, 91]⟩ : ByteArray).size = 2 := rfl; omega) W
  have hadd2 : ∀ W, (Op.stringOp .add s1 ⟨#[UInt8.ofNat fin.toNat]⟩).run Tryd.prog W = .ok (.string s2) W := fun W => by rw [hs2]; exact cat_run _ _ (by have : (⟨#[UInt8.ofNat fin.toNat]⟩ : ByteArray).size = 1 := rfl; omega) W
  have HL := Lib.hid hl
  have HF := Lib.hid (And.intro h0 h1)
  have HZ := Lib.hid z2
  obtain ⟨hc1, hc2⟩ := hvp
  clear hm hb hs1 hs2 z1 z2 hl h0 h1 hbs
  unfold seqV at *
  go_enter Tryd.func27, Tryd.ntmps27
  go_wp2_with (first
      | (go_at_call 26; refine (HM.out _ HO.below).mono ?_; rintro eN wN ⟨rfl, hbN⟩; have HON := HO.call hbN; clear HO hbN; have HO := HON; clear HON)
      | (go_at_call 53; refine (HB.out _ HO.below).mono ?_; rintro eN wN ⟨rfl, hbN⟩; have HON := HO.call hbN; clear HO hbN; have HO := HON; clear HON; obtain ⟨cc, wc, hcv2, hbc, hrow⟩ := run_row_of (P := Tryd.prog) (src := 9) (dst := 48) (e := 5) (s := s2) Tryd.underlying9 Tryd.underlying48 Tryd.underlying5 wN; have HR2 := Lib.hid (And.intro (HO.below.trans (hbc.mono HO.below.size)) hrow); clear hbc hrow)
      | ((with_reducible refine gate ?_); (first
      | ((with_reducible refine gateAt (N := 13) rfl ?_); refine own_lit HO rfl (n := 1) (cs := [.int .u8 fin]) (T := 5) (by first | (go_simp; done) | (go_simp; rfl)) ?_; clear HO; intro gI wN hgI HO; (simp only [List.nil_append, List.cons_append] at HO); have hcv := conv_byte fin HF.out.1 HF.out.2 gI _ (HO.at (.tail _ (.head _))); (try simp only [Act.put, List.setIfInBounds_toArray, List.set_cons_zero, List.set_cons_succ]))
      | ((refine own_box HO rfl rfl rfl ?_); clear HO; intro gB wN hgN HO; (simp only [List.nil_append, List.cons_append] at HO); (try simp only [Act.put, List.setIfInBounds_toArray, List.set_cons_zero, List.set_cons_succ]))
      | ((refine own_load (T := 30) HO rfl rfl rfl (by first | exact .head _ | exact .tail _ (.head _) | exact .tail _ (.tail _ (.head _)) | exact .tail _ (.tail _ (.tail _ (.head _))) | exact .tail _ (.tail _ (.tail _ (.tail _ (.head _)))) | exact .tail _ (.tail _ (.tail _ (.tail _ (.tail _ (.head _)))))) Tryd.isAgg30 Tryd.sizeOf30 (by repeat constructor) ?_); (try simp only [Act.put, List.setIfInBounds_toArray, List.set_cons_zero, List.set_cons_succ]))
      | ((refine own_load1 (T := 5) HO rfl rfl rfl (by first | exact .head _ | exact .tail _ (.head _) | exact .tail _ (.tail _ (.head _)) | exact .tail _ (.tail _ (.tail _ (.head _))) | exact .tail _ (.tail _ (.tail _ (.tail _ (.head _)))) | exact .tail _ (.tail _ (.tail _ (.tail _ (.tail _ (.head _)))))) Tryd.isAgg5 rfl ?_); (try simp only [Act.put, List.setIfInBounds_toArray, List.set_cons_zero, List.set_cons_succ]))
      | ((refine own_load1 (T := 3) HO rfl rfl rfl (by first | exact .head _ | exact .tail _ (.head _) | exact .tail _ (.tail _ (.head _)) | exact .tail _ (.tail _ (.tail _ (.head _))) | exact .tail _ (.tail _ (.tail _ (.tail _ (.head _)))) | exact .tail _ (.tail _ (.tail _ (.tail _ (.tail _ (.head _)))))) Tryd.isAgg3 rfl ?_); (try simp only [Act.put, List.setIfInBounds_toArray, List.set_cons_zero, List.set_cons_succ]))
      | ((refine own_load1 (T := 9) HO rfl rfl rfl (by first | exact .head _ | exact .tail _ (.head _) | exact .tail _ (.tail _ (.head _)) | exact .tail _ (.tail _ (.tail _ (.head _))) | exact .tail _ (.tail _ (.tail _ (.tail _ (.head _)))) | exact .tail _ (.tail _ (.tail _ (.tail _ (.tail _ (.head _)))))) Tryd.isAgg9 rfl ?_); (try simp only [Act.put, List.setIfInBounds_toArray, List.set_cons_zero, List.set_cons_succ]))
      | ((refine own_store (T := 30) HO rfl rfl rfl rfl (by first | exact .here | exact .there (.here) | exact .there (.there (.here)) | exact .there (.there (.there (.here))) | exact .there (.there (.there (.there (.here)))) | exact .there (.there (.there (.there (.there (.here)))))) Tryd.sizeOf30 (by repeat constructor) rfl ?_); clear HO; intro wN HO; (try simp only [Act.put, List.setIfInBounds_toArray, List.set_cons_zero, List.set_cons_succ]))
      | ((refine own_store (T := 5) HO rfl rfl rfl rfl (by first | exact .here | exact .there (.here) | exact .there (.there (.here)) | exact .there (.there (.there (.here))) | exact .there (.there (.there (.there (.here)))) | exact .there (.there (.there (.there (.there (.here)))))) Tryd.sizeOf5 (by repeat constructor) rfl ?_); clear HO; intro wN HO; (try simp only [Act.put, List.setIfInBounds_toArray, List.set_cons_zero, List.set_cons_succ]))
      | ((refine own_store (T := 3) HO rfl rfl rfl rfl (by first | exact .here | exact .there (.here) | exact .there (.there (.here)) | exact .there (.there (.there (.here))) | exact .there (.there (.there (.there (.here)))) | exact .there (.there (.there (.there (.there (.here)))))) Tryd.sizeOf3 (by repeat constructor) rfl ?_); clear HO; intro wN HO; (try simp only [Act.put, List.setIfInBounds_toArray, List.set_cons_zero, List.set_cons_succ]))
      | ((refine own_store (T := 9) HO rfl rfl rfl rfl (by first | exact .here | exact .there (.here) | exact .there (.there (.here)) | exact .there (.there (.there (.here))) | exact .there (.there (.there (.there (.here)))) | exact .there (.there (.there (.there (.there (.here)))))) Tryd.sizeOf9 (by repeat constructor) rfl ?_); clear HO; intro wN HO; (try simp only [Act.put, List.setIfInBounds_toArray, List.set_cons_zero, List.set_cons_succ])))))
  go_ret2
  refine ⟨some ⟨wN.heap.size, 0, none⟩, cc, by rw [← HSZ.out]; rfl, ?_, ?_, HR2.out.1⟩
  · obtain ⟨cur, fz, h1, h2, h3, h4, h5⟩ := HR2.out.2
    rw [← HSZ.out]; exact h4
  · rw [← HL.out]; exact HR2.out.2.reads
def fBytes (bs : List UInt8) : Fact := fun v w => ∃ b c, v = .slice (some ⟨b, 0, none⟩) bs.length c ∧ Row w b bs.length c 5 bs
theorem stays_bytes (bs : List UInt8) : Stays (fBytes bs) := fun v w w' h hb => by
  obtain ⟨b, c, h1, h2⟩ := h
  exact ⟨b, c, h1, h2.below hb⟩
set_option maxRecDepth 100000 in
set_option maxHeartbeats 2000000 in
theorem put_dcs (priv fin : Int) (vp : Value) (hvp : vp.cells = #[vp] ∧ vp.oneCell' = true) (inter data bd : ByteArray) (w : World) (h0 : 0 ≤ fin) (h1 : fin < 256) (hm : SeqAt 26 (seqV 3 priv vp inter fin data) (.int .i64 0) w) (hb : SeqAt 53 (seqV 3 priv vp inter fin data) (.string bd) w) (hz : bd.size ≤ 1000000) (hzd : data.size ≤ 1000000) (bs : List UInt8) (hbs : bs = [27, 80] ++ bd.data.toList ++ [UInt8.ofNat fin.toNat] ++ data.data.toList ++ [27, 92]) :
    Calls Tryd.prog 27 #[seqV 3 priv vp inter fin data] w (PutAns bs w) := by
  have HO := Mine.start w
  have HM := Lib.hid hm
  have HB := Lib.hid hb
  obtain ⟨f1, hf1⟩ : ∃ f1 : ByteArray, f1 = ⟨#[UInt8.ofNat fin.toNat]⟩ := ⟨_, rfl⟩
  obtain ⟨s1, hs1⟩ : ∃ s1 : ByteArray, s1 = ⟨#[27, 80]⟩ ++ bd := ⟨_, rfl⟩
  obtain ⟨s2, hs2⟩ : ∃ s2 : ByteArray, s2 = s1 ++ f1 := ⟨_, rfl⟩
  obtain ⟨s3, hs3⟩ : ∃ s3 : ByteArray, s3 = s2 ++ data := ⟨_, rfl⟩
  obtain ⟨s4, hs4⟩ : ∃ s4 : ByteArray, s4 = s3 ++ ⟨#[27, 92]⟩ := ⟨_, rfl⟩
  have zf : f1.size = 1 := by rw [hf1]; rfl
  have z0 : (⟨#[27, 80]⟩ : ByteArray).size = 2 := rfl
  have z9 : (⟨#[27, 92]⟩ : ByteArray).size = 2 := rfl
  have z1 : s1.size = 2 + bd.size := by rw [hs1, ByteArray.size_append]; rfl
  have z2 : s2.size = 3 + bd.size := by rw [hs2, ByteArray.size_append, z1]; omega
  have z3 : s3.size = 3 + bd.size + data.size := by rw [hs3, ByteArray.size_append, z2]
  have hl : s4.data.toList = bs := by rw [hs4, hs3, hs2, hs1, hf1, hbs]; simp [ByteArray.data_append]
  have HSZ : Hid (s4.size = bs.length) := Lib.hid (by rw [← hl, Array.length_toList]; rfl)
  have HA1 : Hid (∀ W, (Op.stringOp .add ⟨#[27, 80]⟩ bd).run Tryd.prog W = .ok (.string s1) W) := Lib.hid (fun W => by rw [hs1]; exact cat_run _ _ (by omega) W)
  have HA2 : Hid (∀ W, (Op.stringOp .add s1 f1).run Tryd.prog W = .ok (.string s2) W) := Lib.hid (fun W => by rw [hs2]; exact cat_run _ _ (by omega) W)
  have HA3 : Hid (∀ W, (Op.stringOp .add s2 data).run Tryd.prog W = .ok (.string s3) W) := Lib.hid (fun W => by rw [hs3]; exact cat_run _ _ (by omega) W)
  have HA4 : Hid (∀ W, (Op.stringOp .add s3 ⟨#[27, 92]⟩).run Tryd.prog W = .ok (.string s4) W) := Lib.hid (fun W => by rw [hs4]; exact cat_run _ _ (by omega) W)
  have HL := Lib.hid hl
  have HF := Lib.hid (And.intro h0 h1)
  have HF1 := Lib.hid hf1
  obtain ⟨hc1, hc2⟩ := hvp
  clear hm hb hs1 hs2 hs3 hs4 z1 z2 z3 z0 z9 zf hl h0 h1 hbs hf1
  unfold seqV at *
  go_enter Tryd.func27, Tryd.ntmps27
  go_wp2_with (first
      | (go_at_call 26; refine (HM.out _ HO.below).mono ?_; rintro eN wN ⟨rfl, hbN⟩; have HON := HO.call hbN; clear HO hbN; have HO := HON; clear HON)
      | ((with_reducible refine gate ?_); (first
      | ((with_reducible refine gateAt (N := 13) rfl ?_); refine own_lit HO rfl (n := 1) (cs := [.int .u8 fin]) (T := 5) (by first | (go_simp; done) | (go_simp; rfl)) ?_; clear HO; intro gI wN hgI HO; (simp only [List.nil_append, List.cons_append] at HO); have hcv := conv_byte fin HF.out.1 HF.out.2 gI _ (HO.at (.tail _ (.head _))); (try simp only [Act.put, List.setIfInBounds_toArray, List.set_cons_zero, List.set_cons_succ]))
      | ((refine own_box HO rfl rfl rfl ?_); clear HO; intro gB wN hgN HO; (simp only [List.nil_append, List.cons_append] at HO); (try simp only [Act.put, List.setIfInBounds_toArray, List.set_cons_zero, List.set_cons_succ]))
      | ((refine own_load (T := 30) HO rfl rfl rfl (by first | exact .head _ | exact .tail _ (.head _) | exact .tail _ (.tail _ (.head _)) | exact .tail _ (.tail _ (.tail _ (.head _))) | exact .tail _ (.tail _ (.tail _ (.tail _ (.head _)))) | exact .tail _ (.tail _ (.tail _ (.tail _ (.tail _ (.head _)))))) Tryd.isAgg30 Tryd.sizeOf30 (by repeat constructor) ?_); (try simp only [Act.put, List.setIfInBounds_toArray, List.set_cons_zero, List.set_cons_succ]))
      | ((refine own_load1 (T := 5) HO rfl rfl rfl (by first | exact .head _ | exact .tail _ (.head _) | exact .tail _ (.tail _ (.head _)) | exact .tail _ (.tail _ (.tail _ (.head _))) | exact .tail _ (.tail _ (.tail _ (.tail _ (.head _)))) | exact .tail _ (.tail _ (.tail _ (.tail _ (.tail _ (.head _)))))) Tryd.isAgg5 rfl ?_); (try simp only [Act.put, List.setIfInBounds_toArray, List.set_cons_zero, List.set_cons_succ]))
      | ((refine own_load1 (T := 3) HO rfl rfl rfl (by first | exact .head _ | exact .tail _ (.head _) | exact .tail _ (.tail _ (.head _)) | exact .tail _ (.tail _ (.tail _ (.head _))) | exact .tail _ (.tail _ (.tail _ (.tail _ (.head _)))) | exact .tail _ (.tail _ (.tail _ (.tail _ (.tail _ (.head _)))))) Tryd.isAgg3 rfl ?_); (try simp only [Act.put, List.setIfInBounds_toArray, List.set_cons_zero, List.set_cons_succ]))
      | ((refine own_load1 (T := 9) HO rfl rfl rfl (by first | exact .head _ | exact .tail _ (.head _) | exact .tail _ (.tail _ (.head _)) | exact .tail _ (.tail _ (.tail _ (.head _))) | exact .tail _ (.tail _ (.tail _ (.tail _ (.head _)))) | exact .tail _ (.tail _ (.tail _ (.tail _ (.tail _ (.head _)))))) Tryd.isAgg9 rfl ?_); (try simp only [Act.put, List.setIfInBounds_toArray, List.set_cons_zero, List.set_cons_succ]))
      | ((refine own_store (T := 30) HO rfl rfl rfl rfl (by first | exact .here | exact .there (.here) | exact .there (.there (.here)) | exact .there (.there (.there (.here))) | exact .there (.there (.there (.there (.here)))) | exact .there (.there (.there (.there (.there (.here)))))) Tryd.sizeOf30 (by repeat constructor) rfl ?_); clear HO; intro wN HO; (try simp only [Act.put, List.setIfInBounds_toArray, List.set_cons_zero, List.set_cons_succ]))
      | ((refine own_store (T := 5) HO rfl rfl rfl rfl (by first | exact .here | exact .there (.here) | exact .there (.there (.here)) | exact .there (.there (.there (.here))) | exact .there (.there (.there (.there (.here)))) | exact .there (.there (.there (.there (.there (.here)))))) Tryd.sizeOf5 (by repeat constructor) rfl ?_); clear HO; intro wN HO; (try simp only [Act.put, List.setIfInBounds_toArray, List.set_cons_zero, List.set_cons_succ]))
      | ((refine own_store (T := 3) HO rfl rfl rfl rfl (by first | exact .here | exact .there (.here) | exact .there (.there (.here)) | exact .there (.there (.there (.here))) | exact .there (.there (.there (.there (.here)))) | exact .there (.there (.there (.there (.there (.here)))))) Tryd.sizeOf3 (by repeat constructor) rfl ?_); clear HO; intro wN HO; (try simp only [Act.put, List.setIfInBounds_toArray, List.set_cons_zero, List.set_cons_succ]))
      | ((refine own_store (T := 9) HO rfl rfl rfl rfl (by first | exact .here | exact .there (.here) | exact .there (.there (.here)) | exact .there (.there (.there (.here))) | exact .there (.there (.there (.there (.here)))) | exact .there (.there (.there (.there (.there (.here)))))) Tryd.sizeOf9 (by repeat constructor) rfl ?_); clear HO; intro wN HO; (try simp only [Act.put, List.setIfInBounds_toArray, List.set_cons_zero, List.set_cons_succ])))))
  refine region_mine 10 [fIs (.agg #[.int .i64 3, .int .u8 priv, vp, .string inter, .int .u8 fin, .string data]), fIs (.string bd), fIs (.string s1), fIs (.string f1), fIs (.string s2), fIs (.pointer (some ⟨gB, 5, none⟩)), fIs (.string data), fIs (.string s3), fIs (.string s4), fBytes bs] HO (by kernel_rfl) (by kernel_rfl) (by decide) (by kernel_rfl)
    (stays_cons (Stays.fIs _) (stays_cons (Stays.fIs _) (stays_cons (Stays.fIs _) (stays_cons (Stays.fIs _) (stays_cons (Stays.fIs _) (stays_cons (Stays.fIs _) (stays_cons (Stays.fIs _) (stays_cons (Stays.fIs _) (stays_cons (Stays.fIs _) (stays_cons (stays_bytes _) stays_nil)))))))))) ?_
  intro vals Ac hA
  simp [fillL, dstOf, List.range, List.range.loop, Act.put] at hA
  subst hA
  refine ⟨⟨?_, ?_, ?_, ?_, ?_, ?_, ?_, ?_, ?_, ?_, trivial⟩, ?_⟩
  all_goals intro W hd hM hsz
  case refine_1 => exact st_load hM rfl rfl rfl (.head _) Tryd.isAgg30 Tryd.sizeOf30 (by repeat constructor) rfl
  case refine_2 =>
    have v0 : vals 0 = .agg #[.int .i64 3, .int .u8 priv, vp, .string inter, .int .u8 fin, .string data] := hd 0 (by kernel_rfl)
    exact st_call rfl (by simp only [execOp]; first | (go_simp; done) | (go_simp; rfl)) (HB.out W hM.below) (by rintro e w' ⟨rfl, hb⟩; exact ⟨_, rfl, hb, rfl⟩)
  case refine_3 =>
    have v1 : vals 1 = .string bd := hd 1 (by kernel_rfl)
    have hc := HA1.out W
    exact st_val rfl (by simp only [execOp]; first | (go_simp; done) | (go_simp; rfl)) rfl
  case refine_4 =>
    have hf := HF1.out
    exact st_val rfl (by simp only [execOp]; first | (go_simp; done) | (go_simp; rfl)) (by rw [hf]; exact rfl)
  case refine_5 =>
    have v2 : vals 2 = .string s1 := hd 2 (by kernel_rfl)
    have v3 : vals 3 = .string f1 := hd 3 (by kernel_rfl)
    have hc := HA2.out W
    exact st_val rfl (by simp only [execOp]; first | (go_simp; done) | (go_simp; rfl)) rfl
  case refine_6 => exact st_val rfl (by simp only [execOp]; first | (go_simp; done) | (go_simp; rfl)) rfl
  case refine_7 =>
    have v5 : vals 5 = .pointer (some ⟨gB, 5, none⟩) := hd 5 (by kernel_rfl)
    exact st_load1 hM rfl rfl (by rw [← v5]; rfl) (.head _) Tryd.isAgg9 rfl rfl
  case refine_8 =>
    have v4 : vals 4 = .string s2 := hd 4 (by kernel_rfl)
    have v6 : vals 6 = .string data := hd 6 (by kernel_rfl)
    have hc := HA3.out W
    exact st_val rfl (by simp only [execOp]; first | (go_simp; done) | (go_simp; rfl)) rfl
  case refine_9 =>
    have v7 : vals 7 = .string s3 := hd 7 (by kernel_rfl)
    have hc := HA4.out W
    exact st_val rfl (by simp only [execOp]; first | (go_simp; done) | (go_simp; rfl)) rfl
  case refine_10 =>
    have v8 : vals 8 = .string s4 := hd 8 (by kernel_rfl)
    obtain ⟨cc, wc, hcv2, hbc, hrow⟩ := run_row_of (P := Tryd.prog) (src := 9) (dst := 48) (e := 5) (s := s4) Tryd.underlying9 Tryd.underlying48 Tryd.underlying5 W
    have hs := HSZ.out
    rw [hs] at hcv2 hrow
    rw [HL.out] at hrow
    exact step_made rfl (by simp only [execOp]; first | (go_simp; done) | (go_simp; rfl)) ⟨hbc, _, _, rfl, hrow⟩
  case refine_11 =>
    obtain ⟨b, cc, e9, hrow⟩ : fBytes bs (vals 9) W := hd 9 (by omega)
    rw [e9]
    simp only [List.drop_succ_cons, List.drop_zero]
    have HR := Lib.hid (And.intro hM.below hrow)
    clear hd hM hrow
    go_wp2
    go_ret2
    refine ⟨some ⟨b, 0, none⟩, cc, rfl, ?_, HR.out.2.reads, HR.out.1⟩
    obtain ⟨cur, fz, k1, k2, k3, k4, k5⟩ := HR.out.2
    exact k4
end Go.Proofs.YtopcleljecdkkaaDoor
end
section
namespace Go.Proofs.YtopcleljecdkkaaDoor
set_option linter.unusedVariables false
set_option linter.unusedSimpArgs false
open Go.RowKit Kit
attribute [local irreducible] wpList Calls wpQuiet
theorem conv_one (d : Nat) (z : Int) (hz : z = (d : Int)) (hd : d < 256) (W : World) :
    ((convert 48 9 (.slice (some ⟨W.heap.size, 0, none⟩) 1 1)).run Tryd.prog (W.alloc (.cells #[.int .u8 z] 5)) = .ok (.string ⟨[UInt8.ofNat d].toArray⟩) (W.alloc (.cells #[.int .u8 z] 5))) ∧
    ((convert 48 9 (.slice (some ⟨W.heap.size, 0, none⟩) 1 1)).run Tryd.prog (W.alloc (.cells #[.int .u8 z] 5)).drew = .ok (.string ⟨[UInt8.ofNat d].toArray⟩) (W.alloc (.cells #[.int .u8 z] 5)).drew) := by
  subst hz
  have e : Value.int .u8 (d : Int) = byV (UInt8.ofNat d) := by
    unfold byV
    rw [UInt8.toNat_ofNat', Nat.mod_eq_of_lt hd]
  rw [e]
  exact ⟨run_str_of Tryd.underlying48 Tryd.underlying5 Tryd.underlying9 (Reads.row (heap_alloc_new W _) (n := 1) rfl) rfl, run_str_of Tryd.underlying48 Tryd.underlying5 Tryd.underlying9 (Reads.row (w := (W.alloc _).drew) (heap_alloc_new W _) (n := 1) rfl) rfl⟩
theorem below_one {w w' : World} {o : Obj} (hb : Below w.drew.heap.size w.drew w') : Below w.heap.size w (w'.alloc o) :=
  (Below.trans ((Below.refl _ w).drew) hb).alloc hb.size o
theorem below_two {w w' : World} {o : Obj} (hb : Below (w.alloc o).drew.heap.size (w.alloc o).drew w') : Below w.heap.size w w' :=
  (((Below.refl _ w).alloc (Nat.le_refl _) o).drew).trans (hb.mono (by rw [sizeAlloc]; omega))
theorem conv_below (d : Nat) (z : Int) (hz : z = (d : Int)) (hd : d < 256) (W w' : World) (hb : Below (W.alloc (.cells #[.int .u8 z] 5)).drew.heap.size (W.alloc (.cells #[.int .u8 z] 5)).drew w') :
    (convert 48 9 (.slice (some ⟨W.heap.size, 0, none⟩) 1 1)).run Tryd.prog w' = .ok (.string ⟨[UInt8.ofNat d].toArray⟩) w' := by
  subst hz
  have e : Value.int .u8 (d : Int) = byV (UInt8.ofNat d) := by
    unfold byV
    rw [UInt8.toNat_ofNat', Nat.mod_eq_of_lt hd]
  rw [e] at hb
  exact run_str_of Tryd.underlying48 Tryd.underlying5 Tryd.underlying9 ((Reads.row (w := (W.alloc _).drew) (heap_alloc_new W _) (n := 1) rfl : Reads (W.alloc (.cells #[byV (UInt8.ofNat d)] 5)).drew (some ⟨W.heap.size, 0, none⟩) ([UInt8.ofNat d].map byV)).below hb) rfl
set_option maxRecDepth 100000 in
set_option maxHeartbeats 3200000 in
theorem refText_nat (n : Nat) : ∀ (w : World), n ≤ 9223372036854775807 → Calls Tryd.prog 63 #[.int .i64 (n : Int)] w fun e w' => e = .returned (.string ⟨(Lib.decDigits n).toArray⟩) ∧ Below w.heap.size w w' := by
  induction n using Nat.strongRecOn with
  | _ n ih =>
    intro w hn
    have b1 : decide ((n : Int) < 0) = false := decide_eq_false (by omega)
    by_cases hs : n < 10
    · have b2 : decide ((n : Int) < 10) = true := decide_eq_true (by omega)
      have e1 : IntKind.u8.wrap (48 + (n : Int)) = 48 + n := IntWalk.u8_in _ (by omega)
      have H : Hid (Lib.decDigits n = [UInt8.ofNat (48 + n)]) := Lib.hid (by rw [Lib.decDigits, dif_pos hs])
      clear ih
      obtain ⟨st, hst⟩ : ∃ st : ByteArray, st = ⟨(Lib.decDigits n).toArray⟩ := ⟨_, rfl⟩
      have hcv := fun W => (conv_one (48 + n) (48 + (n : Int)) (by omega) (by omega) W).1
      rw [← H.out, ← hst] at hcv
      have HST := Lib.hid hst
      clear hst
      go_enter Tryd.func63, Tryd.ntmps63
      go_wp2
      go_ret
      exact ⟨by rw [← HST.out]; rfl, (Below.refl _ _).alloc (Nat.le_refl _) _⟩
    · have b2 : decide ((n : Int) < 10) = false := decide_eq_false (by omega)
      have H : Hid (Lib.decDigits n = Lib.decDigits (n / 10) ++ [UInt8.ofNat (48 + n % 10)]) := Lib.hid (by rw [Lib.decDigits, dif_neg hs])
      obtain ⟨q, hq⟩ : ∃ q, q = n / 10 := ⟨_, rfl⟩
      obtain ⟨r, hr⟩ : ∃ r, r = n % 10 := ⟨_, rfl⟩
      have e2 : (n : Int) / 10 = (q : Int) := by omega
      have e3 : (n : Int).tdiv 10 = (q : Int) := by rw [Int.tdiv_eq_ediv_of_nonneg (by omega)]; exact e2
      have e4 : (n : Int) % 10 = (r : Int) := by omega
      have e5 : (n : Int).tmod 10 = (r : Int) := by rw [Int.tmod_eq_emod_of_nonneg (by omega)]; exact e4
      have hr10 : r < 10 := by omega
      have e6 : IntKind.u8.wrap (48 + (r : Int)) = 48 + r := IntWalk.u8_in _ (by omega)
      have e7 : IntKind.i64.wrap (48 + (r : Int)) = 48 + r := IntWalk.i64_in _ (by omega)
      have e8 : IntKind.i64.wrap (q : Int) = q := IntWalk.i64_in _ (by omega)
      rw [← hq, ← hr] at H
      have IH := Lib.hid (fun W => ih q (by omega) W (by omega))
      clear ih hq hr
      obtain ⟨st, hst⟩ : ∃ st : ByteArray, st = ⟨(Lib.decDigits n).toArray⟩ := ⟨_, rfl⟩
      obtain ⟨sq, hsq⟩ : ∃ sq : ByteArray, sq = ⟨(Lib.decDigits q).toArray⟩ := ⟨_, rfl⟩
      obtain ⟨sr, hsr⟩ : ∃ sr : ByteArray, sr = ⟨[UInt8.ofNat (48 + r)].toArray⟩ := ⟨_, rfl⟩
      have hcv := fun W => (conv_one (48 + r) (48 + (r : Int)) (by omega) (by omega) W).1
      have hcv2 := fun W => (conv_one (48 + r) (48 + (r : Int)) (by omega) (by omega) W).2
      have hcv3 := fun W w' => conv_below (48 + r) (48 + (r : Int)) (by omega) (by omega) W w'
      rw [← hsr] at hcv hcv2 hcv3
      have HCV := Lib.hid hcv3
      clear hcv3
      have hadd : ∀ W, (Op.stringOp .add sq sr).run Tryd.prog W = .ok (.string st) W := fun W => by
        have hl := Lib.decDigits_length q
        have h20 := Lib.nDigits_le20 q (by have : (q : Int) ≤ n := by omega
                                           omega)
        rw [run_string_add_sum _ _ _ (by rw [hsq, hsr]; simp [ByteArray.size]; omega), hst, H.out, hsq, hsr, ByteArray.mk_append_mk]
      rw [← hsq] at IH
      have HST := Lib.hid hst
      clear hst hsq hsr
      go_enter Tryd.func63, Tryd.ntmps63
      go_wp2
      go_region_with (first | (go_at_call 63; refine (IH.out _).mono ?_; rintro e w' ⟨rfl, hbN⟩; (try have hcv4 := HCV.out _ _ hbN)) | fail)
      all_goals
        go_wp2
        go_ret
        first
          | exact ⟨by rw [← HST.out]; rfl, below_one hbN⟩
          | exact ⟨by rw [← HST.out]; rfl, below_two hbN⟩
theorem refText_calls (n : Int) (h1 : n ≤ 9223372036854775807) (w : World) :
    Calls Tryd.prog 63 #[.int .i64 n] w fun e w' => e = .returned (.string ⟨(textL n).toArray⟩) ∧ Below w.heap.size w w' := by
  by_cases hn : n < 0
  · have b1 : decide (n < 0) = true := decide_eq_true hn
    have H : Hid (textL n = []) := Lib.hid (by simp [textL, hn])
    go_enter Tryd.func63, Tryd.ntmps63
    go_wp2
    go_ret
    exact ⟨by rw [H.out]; rfl, Below.refl _ _⟩
  · obtain ⟨k, rfl⟩ : ∃ k : Nat, n = (k : Int) := ⟨n.toNat, by omega⟩
    rw [textL_nat]
    exact refText_nat k w (by omega)
end Go.Proofs.YtopcleljecdkkaaDoor
end
section
namespace Go.Proofs.YtopcleljecdkkaaDoor
set_option linter.unusedVariables false
set_option linter.unusedSimpArgs false
open Go.RowKit Kit Go.Proofs.YtopcleljecdkkaaDoorW.PrintWords
attribute [local irreducible] wpList Calls
def scr0 : Value := scrV 0 0 3 4 1 24 0 0 0 false false false false false false false 0 0 0
def SeqPost (kind priv : Int) (rows : List (List Int)) (inter : ByteArray) (fin : Int) (data : ByteArray) (W : World) (e : Ending) (w' : World) : Prop := ∃ v, e = .returned (seqV kind priv v inter fin data) ∧ Kd.S (Kd.slice 3 (Kd.int .i64)) 52 w' W.heap.size (fun _ => True) v rows ∧ Below W.heap.size W w'
def PutAt (kind priv : Int) (rows : List (List Int)) (inter : ByteArray) (fin : Int) (data : ByteArray) (bs : List UInt8) (w : World) : Prop := ∀ W A c, Below w.heap.size w W → (Kd.slice 3 (Kd.int .i64)).C W A rows.length rows → rows.length ≤ c → Calls Tryd.prog 27 #[seqV kind priv (.slice A rows.length c) inter fin data] W (PutAns bs W)
theorem field_data (w : World) (a b c d e f : Value) : (Instr.field 30 (.agg #[a, b, c, d, e, f]) 5).run Tryd.prog w = .ok f w := by
  simp [Instr.field, Sem.run_bind, run_underlying Tryd.underlying30, part, Tryd.isAgg9, asAgg]
set_option maxRecDepth 100000 in
set_option maxHeartbeats 4000000 in
theorem awake19_calls (w : World)
    (h1 : ∀ W, Below w.heap.size w W → Calls Tryd.prog 11 #[scr0, .bool false] W (SeqPost 1 0 [[3], [4]] ⟨#[]⟩ 82 ⟨#[]⟩ W))
    (h2 : ∀ W, Below w.heap.size w W → Calls Tryd.prog 13 #[scr0, .string ⟨#[114]⟩] W (SeqPost 3 0 [[1]] ⟨#[36]⟩ 114 ⟨#[49, 59, 50, 52, 114]⟩ W))
    (h3 : ∀ W, Below w.heap.size w W → Calls Tryd.prog 13 #[scr0, .string ⟨#[120]⟩] W (SeqPost 3 0 [[0]] ⟨#[36]⟩ 114 ⟨#[]⟩ W))
    (h4 : ∀ W, Below w.heap.size w W → Calls Tryd.prog 24 #[] W fun e w' => ∃ v, e = .returned (seqV 3 62 v ⟨#[]⟩ 124 ⟨#[99, 108, 97, 118, 105, 101, 114, 40, 49, 41]⟩) ∧ Below W.heap.size W w')
    (p1 : PutAt 1 0 [[3], [4]] ⟨#[]⟩ 82 ⟨#[]⟩ [27, 91, 51, 59, 52, 82] w)
    (p2 : PutAt 3 0 [[1]] ⟨#[36]⟩ 114 ⟨#[49, 59, 50, 52, 114]⟩ [27, 80, 49, 36, 114, 49, 59, 50, 52, 114, 27, 92] w)
    (p3 : PutAt 3 0 [[0]] ⟨#[36]⟩ 114 ⟨#[]⟩ [27, 80, 48, 36, 114, 27, 92] w) :
    Calls Tryd.prog 9 #[] w fun e w' => e = .returned (.bool true) ∧ Below w.heap.size w w' := by
  have HO := Mine.start w
  have H1 := Lib.hid h1
  have H2 := Lib.hid h2
  have H3 := Lib.hid h3
  have H4 := Lib.hid h4
  have P1 := Lib.hid p1
  have P2 := Lib.hid p2
  have P3 := Lib.hid p3
  have hu1 := Tryd.underlying25
  have hfd := field_data
  clear h1 h2 h3 h4 p1 p2 p3
  unfold SeqPost scr0 scrV at H1 H2 H3
  unfold PutAt at P1 P2 P3
  unfold PutAns at P1 P2 P3
  unfold seqV at *
  go_enter Tryd.func9, Tryd.ntmps9
  have HX : (fun _ : World => True) w := trivial
  have HXB : XB (fun _ : World => True) := fun _ _ _ _ => trivial
  have HXS : XS 25 (fun _ : World => True) := fun _ _ _ _ _ _ => trivial
  go_wp2_with (first
      | (go_at_call 11; refine (H1.out _ HO.below).mono ?_; rintro eN wN ⟨vR, rfl, hS, hbN⟩; have HON := HO.call hbN; have HXN := HXB _ _ HX hbN; clear HO HX hbN; have HO := HON; have HX := HXN; clear HON HXN; obtain ⟨vA, vc, rfl, hle, hC⟩ := Kd.S_reads hS; clear hS)
      | (go_at_call 13; (first | (refine (H2.out _ HO.below).mono ?_; clear H2; rintro eN wN ⟨vR, rfl, hS, hbN⟩) | (refine (H3.out _ HO.below).mono ?_; clear H3; rintro eN wN ⟨vR, rfl, hS, hbN⟩)); have HON := HO.call hbN; have HXN := HXB _ _ HX hbN; clear HO HX hbN; have HO := HON; have HX := HXN; clear HON HXN; obtain ⟨vA, vc, rfl, hle, hC⟩ := Kd.S_reads hS; clear hS)
      | (go_at_call 27; first | (refine (P1.out _ _ _ HO.below hC hle).mono ?_; clear P1 hC hle; rintro eN wN ⟨pa, ca, rfl, _, hrr, hbN⟩; have HON := HO.call hbN; have HXN := HXB _ _ HX hbN; clear HO HX HXB hbN; have HO := HON; clear HON; (have HX : (fun W : World => Reads W pa (([27, 91, 51, 59, 52, 82] : List UInt8).map byV)) wN := hrr); (have HXB : XB (fun W : World => Reads W pa (([27, 91, 51, 59, 52, 82] : List UInt8).map byV)) := fun W W' h hb => h.below hb); clear HXN hrr) | (refine (P2.out _ _ _ HO.below hC hle).mono ?_; clear P2 hC hle; rintro eN wN ⟨pb, cb, rfl, _, hrr, hbN⟩; have HON := HO.call hbN; have HXN := HXB _ _ HX hbN; clear HO HX HXB hbN; have HO := HON; clear HON; (have HX : (fun W : World => Reads W pa (([27, 91, 51, 59, 52, 82] : List UInt8).map byV) ∧ Reads W pb (([27, 80, 49, 36, 114, 49, 59, 50, 52, 114, 27, 92] : List UInt8).map byV)) wN := ⟨HXN, hrr⟩); (have HXB : XB (fun W : World => Reads W pa (([27, 91, 51, 59, 52, 82] : List UInt8).map byV) ∧ Reads W pb (([27, 80, 49, 36, 114, 49, 59, 50, 52, 114, 27, 92] : List UInt8).map byV)) := fun W W' h hb => ⟨h.1.below hb, h.2.below hb⟩); clear HXN hrr) | (refine (P3.out _ _ _ HO.below hC hle).mono ?_; clear P3 hC hle; rintro eN wN ⟨pc, cc, rfl, _, hrr, hbN⟩; have HON := HO.call hbN; have HXN := HXB _ _ HX hbN; clear HO HX HXB hbN; have HO := HON; clear HON; (have HX : (fun W : World => Reads W pa (([27, 91, 51, 59, 52, 82] : List UInt8).map byV) ∧ Reads W pb (([27, 80, 49, 36, 114, 49, 59, 50, 52, 114, 27, 92] : List UInt8).map byV) ∧ Reads W pc (([27, 80, 48, 36, 114, 27, 92] : List UInt8).map byV)) wN := ⟨HXN.1, HXN.2, hrr⟩); (have HXB : XB (fun W : World => Reads W pa (([27, 91, 51, 59, 52, 82] : List UInt8).map byV) ∧ Reads W pb (([27, 80, 49, 36, 114, 49, 59, 50, 52, 114, 27, 92] : List UInt8).map byV) ∧ Reads W pc (([27, 80, 48, 36, 114, 27, 92] : List UInt8).map byV)) := fun W W' h hb => ⟨h.1.below hb, h.2.1.below hb, h.2.2.below hb⟩); clear HXN hrr; have hc1 := run_str_of (P := Tryd.prog) (src := 48) (dst := 9) Tryd.underlying48 Tryd.underlying5 Tryd.underlying9 (c := ca) HX.1 (n := 6) rfl; have hc2 := run_str_of (P := Tryd.prog) (src := 48) (dst := 9) Tryd.underlying48 Tryd.underlying5 Tryd.underlying9 (c := cb) HX.2.1 (n := 12) rfl; have hc3 := run_str_of (P := Tryd.prog) (src := 48) (dst := 9) Tryd.underlying48 Tryd.underlying5 Tryd.underlying9 (c := cc) HX.2.2 (n := 7) rfl))
      | (go_at_call 24; refine (H4.out _ HO.below).mono ?_; rintro eN wN ⟨vR, rfl, hbN⟩; have HON := HO.call hbN; have HXN := HXB _ _ HX hbN; clear HO HX hbN; have HO := HON; have HX := HXN; clear HON HXN)
      | ((with_reducible refine gate ?_); (first
      | ((refine own_boxX HO HX HXB rfl rfl rfl ?_); clear HO HX; intro gN wN hgN HO HX; (simp only [List.nil_append, List.cons_append] at HO); (try simp only [Act.put, List.setIfInBounds_toArray, List.set_cons_zero, List.set_cons_succ]))
      | ((refine own_allocX (T := 25) HO HX HXB rfl rfl Tryd.zeroValue25 rfl ?_); clear HO HX; intro gN wN hgN HO HX; (simp only [List.nil_append, List.cons_append] at HO); (try simp only [Act.put, List.setIfInBounds_toArray, List.set_cons_zero, List.set_cons_succ]))
      | ((refine own_load (T := 25) HO rfl rfl rfl (by first | exact .head _ | exact .tail _ (.head _) | exact .tail _ (.tail _ (.head _)) | exact .tail _ (.tail _ (.tail _ (.head _))) | exact .tail _ (.tail _ (.tail _ (.tail _ (.head _)))) | exact .tail _ (.tail _ (.tail _ (.tail _ (.tail _ (.head _)))))) Tryd.isAgg25 Tryd.sizeOf25 (by repeat constructor) ?_); (try simp only [Act.put, List.setIfInBounds_toArray, List.set_cons_zero, List.set_cons_succ]))
      | ((refine own_storeX (T := 25) HO HX rfl rfl rfl rfl (by first | exact .here | exact .there (.here) | exact .there (.there (.here)) | exact .there (.there (.there (.here))) | exact .there (.there (.there (.there (.here)))) | exact .there (.there (.there (.there (.there (.here)))))) HXS Tryd.sizeOf25 (by repeat constructor) rfl ?_); clear HO HX; intro wN HO HX; (try simp only [Act.put, List.setIfInBounds_toArray, List.set_cons_zero, List.set_cons_succ])))))
  go_ret
  exact ⟨rfl, HO.below⟩
end Go.Proofs.YtopcleljecdkkaaDoor
end
section
namespace Go.Proofs.YtopcleljecdkkaaDoor.G
open Go.RowKit Go.Proofs.YtopcleljecdkkaaDoorW.PrintWords Go.Proofs.YtopcleljecdkkaaDoorW.PrintLast Go.Proofs.YtopcleljecdkkaaDoorW.PrintMore
attribute [local go_sem] max2_int min2_int max_two min_two max_three min_three max_four min_four
set_option linter.unusedVariables false
set_option linter.unusedSimpArgs false
def errW : Option Int → Value
  | none => .nilIface
  | some c => .iface 0 (.int .i64 c)
theorem errW_none : errW none = .nilIface := rfl
theorem errW_some (c : Int) : errW (some c) = .iface 0 (.int .i64 c) := rfl
theorem info9 : (Tryd.prog.info? 9).map (fun i => (i.zero, i.size, i.bytes)) = some (some (.string ⟨#[]⟩), 1, 16) := by kernel_rfl
theorem info52 : (Tryd.prog.info? 52).map (fun i => (i.zero, i.size, i.bytes)) = some (some (.slice none 0 0), 1, 24) := by kernel_rfl
def rd_L1 (xs : List (List Int)) (i : Int) : (List Int) := xs.getD i.toNat ([] : List Int)
theorem at_L1 {w : World} {A : Option Addr} {n : Nat} {xs : List (List Int)} (h : Kd.C (Kd.slice 3 (Kd.int .i64)) w A n xs) (i : Int) (h0 : 0 ≤ i) (h1 : i < n) : ∃ ad A0 c0, A = some ad ∧ w.cell? (ad.add i.toNat) = some (.slice A0 (rd_L1 xs i).length c0) ∧ (rd_L1 xs i).length ≤ c0 ∧ (Kd.int .i64).C w A0 (rd_L1 xs i).length (rd_L1 xs i) := by
  obtain ⟨ad, c, e, _, hK, hc0⟩ := Kd.C_get h ([] : List Int) i h0 h1
  have hc : ∀ j u, c[j]? = some u → w.cell? (ad.add (i.toNat * 1 + j)) = some u := hc0
  obtain ⟨A0, c0, rfl, l0, g0⟩ := hK
  exact ⟨ad, A0, c0, e, by have hq := hc 0 _ rfl; rwa [Nat.mul_one, Nat.add_zero] at hq, l0, g0⟩
end Go.Proofs.YtopcleljecdkkaaDoor.G
end
section
namespace Go.Proofs.YtopcleljecdkkaaDoor.G
open Go.RowKit Go.Proofs.YtopcleljecdkkaaDoorW.PrintWords Go.Proofs.YtopcleljecdkkaaDoorW.PrintLast Go.Proofs.YtopcleljecdkkaaDoorW.PrintMore
attribute [local go_sem] max2_int min2_int max_two min_two max_three min_three max_four min_four
set_option linter.unusedVariables false
set_option linter.unusedSimpArgs false
def num_Text.f (a0 : Int) : Option (ByteArray) := if -9223372036854775808 ≤ a0 ∧ a0 ≤ 9223372036854775807 then some ⟨(textL a0).toArray⟩ else none
theorem num_Text.calls (a0 : Int) (r : ByteArray) (w : World) (hT : Tab w) (h : num_Text.f a0 = some r) :
    Calls Tryd.prog 34 #[.int .i64 a0] w fun e w' => e = .returned (.string r) ∧ Below w.heap.size w w' := by
  unfold num_Text.f at h
  by_cases hb : -9223372036854775808 ≤ a0 ∧ a0 ≤ 9223372036854775807
  · rw [if_pos hb] at h
    obtain rfl := Option.some.inj h
    exact text_calls a0 hb.1 hb.2 w hT
  · rw [if_neg hb] at h; cases h
end Go.Proofs.YtopcleljecdkkaaDoor.G
end
section
namespace Go.Proofs.YtopcleljecdkkaaDoor.G
open Go.RowKit Go.Proofs.YtopcleljecdkkaaDoorW.PrintWords Go.Proofs.YtopcleljecdkkaaDoorW.PrintLast Go.Proofs.YtopcleljecdkkaaDoorW.PrintMore
attribute [local go_sem] max2_int min2_int max_two min_two max_three min_three max_four min_four
set_option linter.unusedVariables false
set_option linter.unusedSimpArgs false
def strings_Join.f (l0 : List ByteArray) (a1 : ByteArray) : Option (ByteArray) := if l0.length ≤ 140737488355328 ∧ (Lib.join (l0.map (·.data.toList)) a1.data.toList).length ≤ 140737488355328 then some ⟨(Lib.join (l0.map (·.data.toList)) a1.data.toList).toArray⟩ else none
theorem strings_Join.calls (A0 : Option Addr) (c0 : Nat) (l0 : List ByteArray) (a1 : ByteArray) (r : ByteArray) (w : World) (hr0 : Kd.C Kd.string w A0 l0.length l0) (hc0 : l0.length ≤ c0) (h : strings_Join.f l0 a1 = some r) :
    Calls Tryd.prog 55 #[.slice A0 l0.length c0, .string a1] w fun e w' => e = .returned (.string r) ∧ Below w.heap.size w w' := by
  unfold strings_Join.f at h
  by_cases hb : l0.length ≤ 140737488355328 ∧ (Lib.join (l0.map (·.data.toList)) a1.data.toList).length ≤ 140737488355328
  · rw [if_pos hb] at h
    obtain rfl := Option.some.inj h
    cases l0 with
    | nil => exact (Tryd.strings_Join_none A0 c0 a1 w).mono fun _ _ h => ⟨h.1, by rw [h.2]; exact Below.refl _ _⟩
    | cons x xs =>
      have hr : Kit.Reads w A0 ((x :: xs).map Value.string) := Kit.reads_scalar ByteArray.empty hr0
      obtain ⟨b, o, rfl, hc⟩ := hr 0 _ rfl
      refine Tryd.strings_Join b o c0 (x :: xs) a1 w (fun j y hy => ?_) (World.block_lt_of_cell? w _ hc) hb.1 hc0 hb.2
      obtain ⟨b', o', he, hc'⟩ := hr j (.string y) (by rw [List.getElem?_map, hy]; rfl)
      cases he
      exact hc'
  · rw [if_neg hb] at h; cases h
end Go.Proofs.YtopcleljecdkkaaDoor.G
end
section
namespace Go.Proofs.YtopcleljecdkkaaDoor.G
open Go.RowKit Go.Proofs.YtopcleljecdkkaaDoorW.PrintWords Go.Proofs.YtopcleljecdkkaaDoorW.PrintLast Go.Proofs.YtopcleljecdkkaaDoorW.PrintMore
attribute [local go_sem] max2_int min2_int max_two min_two max_three min_three max_four min_four
set_option linter.unusedVariables false
set_option linter.unusedSimpArgs false
mutual
def style_Text.l0 : Nat → List ByteArray → List (List Int) → Int → Int → Option (ByteArray)
  | 0, _, _, _, _ => none
  | k + 1, x3, x9, x10, x11 => if x11 < x10 then (if 0 ≤ x11 then (if x11 < (x9.length : Int) then (style_Text.l1 k x3 ([] : List ByteArray) x9 x10 x11 (rd_L1 x9 x11) ((rd_L1 x9 x11).length : Int) 0) else (none)) else (none)) else ((strings_Join.f x3 (⟨#[59]⟩ : ByteArray)).bind fun t138 => (some t138))
def style_Text.l1 : Nat → List ByteArray → List ByteArray → List (List Int) → Int → Int → List Int → Int → Int → Option (ByteArray)
  | 0, _, _, _, _, _, _, _, _ => none
  | k + 1, x3, x6, x9, x10, x11, x15, x16, x17 => if x17 < x16 then (if 0 ≤ x17 then (if x17 < (x15.length : Int) then ((num_Text.f (rd x15 x17)).bind fun t141 => (if x6.length < 8796093022208 then (style_Text.l1 k x3 (x6 ++ [t141]) x9 x10 x11 x15 x16 (wrap64 (x17 + 1))) else (none))) else (none)) else (none)) else ((strings_Join.f x6 (⟨#[58]⟩ : ByteArray)).bind fun t145 => (if x3.length < 8796093022208 then (style_Text.l0 k (x3 ++ [t145]) x9 x10 (wrap64 (x11 + 1))) else (none)))
end
def style_Text.f (k : Nat) (l0 : List (List Int)) : Option (ByteArray) := style_Text.l0 k ([] : List ByteArray) l0 (l0.length : Int) 0
theorem style_Text.mono_l : ∀ k, (∀ y0 y1 y2 y3, LeO (style_Text.l0 k y0 y1 y2 y3) (style_Text.l0 (k + 1) y0 y1 y2 y3)) ∧ (∀ y0 y1 y2 y3 y4 y5 y6 y7, LeO (style_Text.l1 k y0 y1 y2 y3 y4 y5 y6 y7) (style_Text.l1 (k + 1) y0 y1 y2 y3 y4 y5 y6 y7))
  | 0 => ⟨fun _ _ _ _ r h => by simp [style_Text.l0] at h, fun _ _ _ _ _ _ _ _ r h => by simp [style_Text.l1] at h⟩
  | k + 1 => by
    obtain ⟨ih0, ih1⟩ := style_Text.mono_l k
    refine ⟨?_, ?_⟩
    · intro y0 y1 y2 y3
      unfold style_Text.l0
      repeat' first
      | (with_reducible exact ih0 _ _ _ _)
      | (with_reducible exact ih1 _ _ _ _ _ _ _ _)
      | (with_reducible exact LeO.refl _)
      | (with_reducible exact LeO.none _)
      | (with_reducible refine LeO.ite ?_ ?_)
      | (with_reducible refine LeO.bind ?_ (fun _ => ?_))
      | exact ih0 _ _ _ _
      | exact ih1 _ _ _ _ _ _ _ _
      | exact LeO.none _
      | refine LeO.ite ?_ ?_
      | refine LeO.bind ?_ (fun _ => ?_)
    · intro y0 y1 y2 y3 y4 y5 y6 y7
      unfold style_Text.l1
      repeat' first
      | (with_reducible exact ih0 _ _ _ _)
      | (with_reducible exact ih1 _ _ _ _ _ _ _ _)
      | (with_reducible exact LeO.refl _)
      | (with_reducible exact LeO.none _)
      | (with_reducible refine LeO.ite ?_ ?_)
      | (with_reducible refine LeO.bind ?_ (fun _ => ?_))
      | exact ih0 _ _ _ _
      | exact ih1 _ _ _ _ _ _ _ _
      | exact LeO.none _
      | refine LeO.ite ?_ ?_
      | refine LeO.bind ?_ (fun _ => ?_)
theorem style_Text.mono : ∀ a0 k, LeO (style_Text.f k a0) (style_Text.f (k + 1) a0) := by
  intro a0 k
  obtain ⟨ih0, ih1⟩ := style_Text.mono_l k
  unfold style_Text.f
  repeat' first
      | (with_reducible exact ih0 _ _ _ _)
      | (with_reducible exact ih1 _ _ _ _ _ _ _ _)
      | (with_reducible exact LeO.refl _)
      | (with_reducible exact LeO.none _)
      | (with_reducible refine LeO.ite ?_ ?_)
      | (with_reducible refine LeO.bind ?_ (fun _ => ?_))
      | exact ih0 _ _ _ _
      | exact ih1 _ _ _ _ _ _ _ _
      | exact LeO.none _
      | refine LeO.ite ?_ ?_
      | refine LeO.bind ?_ (fun _ => ?_)
set_option maxHeartbeats 8000000 in
set_option maxRecDepth 100000 in
theorem style_Text.calls (k : Nat) (A0 : Option Addr) (c0 : Nat) (l0 : List (List Int)) (r : ByteArray) (w : World) (hr0 : Kd.C (Kd.slice 3 (Kd.int .i64)) w A0 l0.length l0) (hc0 : l0.length ≤ c0) (hT : Tab w) (h : style_Text.f k l0 = some r) :
    Calls Tryd.prog 36 #[.slice A0 l0.length c0] w fun e w' => e = .returned (.string r) ∧ Below w.heap.size w w' := by
  have HR0 := Aside0.mk hr0
  have HC0 := Aside0.mk hc0
  clear hr0 hc0
  have HT := Aside0.mk hT
  clear hT
  have HB := Aside0.mk (Below.refl w.heap.size w)
  have H : (style_Text.l0 k ([] : List ByteArray) l0 (l0.length : Int) 0) = some r := h
  clear h
  have H' := Aside0.mk H
  clear H
  go_enter Tryd.func36, Tryd.ntmps36
  go_wp2
  go_loopg [3, 11] k (fun kq v3 v11 w' => ∃ (x3_1 : List ByteArray) (x11_1 : Int), v11 = .int .i64 x11_1 ∧ Aside0 (style_Text.l0 kq x3_1 l0 (l0.length : Int) x11_1 = some r) ∧ Aside0 (kq ≤ k) ∧ Aside0 (Kd.R Kd.string 9 w' w.heap.size (fun _ => True) v3 x3_1) ∧ Aside0 (Below w.heap.size w w'))
  case atStart => exact ⟨(([] : List ByteArray)), (0), (by first | rfl | (simp; done) | (simp [*]; done)), H', ⟨Nat.le_refl _⟩, ⟨by first | exact Kd.R_nil _ _ _ _ _ | exact Kd.N_nil _ _ _ _ _ | exact Kd.V_nil _ _ _ _ _ | exact Kd.Q_nil _ _ _ _ _ | exact Kd.S_nil _ _ _ _ _⟩, ⟨by repeat (first | (with_reducible first | exact HB.out | apply la1 | apply ln1 | apply ld1) | exact HB.out)⟩⟩
  case round =>
    clear H'
    obtain ⟨x3_1, x11_1, rfl, HA, HK1, HO_3, HB⟩ := hrel
    cases gk with
    | zero => exact absurd HA.out (by simp [style_Text.l0])
    | succ k1 =>
      have H := HA.out
      clear HA
      simp only [style_Text.l0] at H
      by_cases c2 : x11_1 < (l0.length : Int)
      · rw [if_pos c2] at H
        have c2b0 : decide (x11_1 < (l0.length : Int)) = true := decide_eq_true c2
        clear c2
        by_cases c3 : 0 ≤ x11_1
        · rw [if_pos c3] at H
          have c3b0 : decide (0 ≤ x11_1) = true := decide_eq_true c3
          clear c3
          by_cases c4 : x11_1 < (l0.length : Int)
          · rw [if_pos c4] at H
            have c4b0 : decide (x11_1 < (l0.length : Int)) = true := decide_eq_true c4
            clear c4
            have H' := Aside0.mk H
            clear H
            have p139 : 0 ≤ (x11_1 : Int) := of_decide_eq_true (by first | (with_reducible assumption) | assumption)
            have q139 : x11_1 < (l0.length : Int) := of_decide_eq_true (by first | (with_reducible assumption) | assumption)
            obtain ⟨ad139, A139_0, c139_0, e139, hx139_0, hl139_0, hi139_0⟩ := at_L1 HR0.out x11_1 p139 q139
            cases e139
            replace hx139_0 := (HB.out.cell (World.block_lt_of_cell? w _ hx139_0)).trans hx139_0
            have HR139_0 := Aside0.mk hi139_0
            have HC139_0 := Aside0.mk hl139_0
            clear hi139_0 hl139_0
            replace p139 := eq_true p139
            replace q139 := eq_true q139
            go_wp2
            go_loopg [6, 17] k1 (fun kq v6 v17 w' => ∃ (x6_2 : List ByteArray) (x17_2 : Int), v17 = .int .i64 x17_2 ∧ Aside0 (style_Text.l1 kq x3_1 x6_2 l0 (l0.length : Int) x11_1 (rd_L1 l0 x11_1) ((rd_L1 l0 x11_1).length : Int) x17_2 = some r) ∧ Aside0 (kq ≤ k1) ∧ Aside0 (Kd.R Kd.string 9 w' w.heap.size (fun k_ => some k_ ≠ (v6 : Value).ownBlock) u3 x3_1) ∧ Aside0 (Kd.R Kd.string 9 w' w.heap.size (fun k_ => some k_ ≠ (u3 : Value).ownBlock) v6 x6_2) ∧ Aside0 (Below w.heap.size w w'))
            case atStart => exact ⟨(([] : List ByteArray)), (0), (by first | rfl | (simp; done) | (simp [*]; done)), H', ⟨Nat.le_refl _⟩, ⟨by (with_reducible repeat (first | apply Kd.R_alloc | apply Kd.R_drewN | apply Kd.R_drew)); exact Kd.R_mono HO_3.out (fun _ hk => (by simp [Value.ownBlock]))⟩, ⟨by first | exact Kd.R_nil _ _ _ _ _ | exact Kd.N_nil _ _ _ _ _ | exact Kd.V_nil _ _ _ _ _ | exact Kd.Q_nil _ _ _ _ _ | exact Kd.S_nil _ _ _ _ _⟩, ⟨by repeat (first | (with_reducible first | exact HB.out | apply la1 | apply ln1 | apply ld1) | exact HB.out)⟩⟩
            case round =>
              clear H'
              try clear c1
              try clear p1
              try clear q1
              try clear hx1
              try clear c2
              try clear c2b0
              try clear p2
              try clear c3
              try clear c3b0
              try clear c4
              try clear c4b0
              try clear hx139_0
              try clear p139
              try clear q139
              obtain ⟨x6_2, x17_2, rfl, HA, HK2, HO_3, HO_6, HB⟩ := hrel
              cases gk with
              | zero => exact absurd HA.out (by simp [style_Text.l1])
              | succ k2 =>
                have H := HA.out
                clear HA
                simp only [style_Text.l1] at H
                by_cases c5 : x17_2 < ((rd_L1 l0 x11_1).length : Int)
                · rw [if_pos c5] at H
                  have c5b0 : decide (x17_2 < ((rd_L1 l0 x11_1).length : Int)) = true := decide_eq_true c5
                  clear c5
                  by_cases c6 : 0 ≤ x17_2
                  · rw [if_pos c6] at H
                    have c6b0 : decide (0 ≤ x17_2) = true := decide_eq_true c6
                    clear c6
                    by_cases c7 : x17_2 < ((rd_L1 l0 x11_1).length : Int)
                    · rw [if_pos c7] at H
                      have c7b0 : decide (x17_2 < ((rd_L1 l0 x11_1).length : Int)) = true := decide_eq_true c7
                      clear c7
                      replace H := Option.bind_eq_some_iff.mp H
                      obtain ⟨t141, A80, H⟩ := H
                      replace H : (if x6_2.length < 8796093022208 then (style_Text.l1 k2 x3_1 (x6_2 ++ [t141]) l0 (l0.length : Int) x11_1 (rd_L1 l0 x11_1) ((rd_L1 l0 x11_1).length : Int) (wrap64 (x17_2 + 1))) else (none)) = some r := H
                      have A8 := Aside0.mk A80
                      clear A80
                      by_cases c9 : x6_2.length < 8796093022208
                      · rw [if_pos c9] at H
                        have LMc9 := Aside0.mk c9
                        clear c9
                        obtain ⟨y142, hy142⟩ : ∃ y_ : List ByteArray, y_ = (x6_2 ++ [t141]) := ⟨_, rfl⟩
                        replace H : (style_Text.l1 k2 x3_1 y142 l0 (l0.length : Int) x11_1 (rd_L1 l0 x11_1) ((rd_L1 l0 x11_1).length : Int) (wrap64 (x17_2 + 1))) = some r := by first | (rw [hy142]; with_reducible exact H) | (have H2_ := (Option.bind_some _ _).symm.trans H; rw [hy142]; with_reducible exact H2_) | (have H2_ := (Option.bind_some _ _).symm.trans H; with_reducible exact H2_) | with_reducible exact H | (rw [hy142]; exact H) | exact H
                        have Ny142 := Aside0.mk hy142
                        clear hy142
                        have H' := Aside0.mk H
                        clear H
                        have p140 : 0 ≤ (x17_2 : Int) := of_decide_eq_true (by first | (with_reducible assumption) | assumption)
                        have q140 : x17_2 < ((rd_L1 l0 x11_1).length : Int) := of_decide_eq_true (by first | (with_reducible assumption) | assumption)
                        obtain ⟨ad140, e140, hx140_0⟩ := Kd.at_int HR139_0.out x17_2 p140 q140
                        cases e140
                        replace hx140_0 := (HB.out.cell (World.block_lt_of_cell? w _ hx140_0)).trans hx140_0
                        replace p140 := eq_true p140
                        replace q140 := eq_true q140
                        go_wp2_with (first | ((with_reducible refine gate_callee (f := 34) rfl ?_); refine goesL_ (some 23) rfl rfl Tryd.func34 (by kernel_rfl) rfl #[.int .i64 (rd (rd_L1 l0 x11_1) x17_2)] rfl (by (try simp only [List.map_toArray, List.map_cons, List.map_nil]); first | done | rfl | (simp only [List.length_drop, List.length_take]; rfl)) ?_; (with_reducible refine (num_Text.calls (rd (rd_L1 l0 x11_1) x17_2) t141 _ ?side1 A8.out).mono ?_); (case side1 => exact Tab.below HT.out (by repeat (first | (with_reducible first | exact HB.out | apply la1 | apply ln1 | apply ld1) | exact HB.out))); rintro e w10 ⟨rfl, hb⟩; refine ⟨_, rfl, ?_⟩; have n0_ := Aside0.mk (Kd.R_below (by (with_reducible repeat (first | apply Kd.R_alloc | apply Kd.R_drewN | apply Kd.R_drew)); exact HO_3.out) hb); have n1_ := Aside0.mk (Kd.R_below (by (with_reducible repeat (first | apply Kd.R_alloc | apply Kd.R_drewN | apply Kd.R_drew)); exact HO_6.out) hb); have n2_ := Aside0.mk (below_step (by repeat (first | (with_reducible first | exact HB.out | apply la1 | apply ln1 | apply ld1) | exact HB.out)) hb); clear HO_3; clear HO_6; clear HB; have HO_3 := n0_; have HO_6 := n1_; have HB := n2_; clear n0_ n1_ n2_; (try clear hb); (try clear hb2); (try clear hk); (try clear hi)) | ((with_reducible refine gate_builtin (b := .append) (xs := #[.tmp 21, .tmp 24]) rfl ?_); at_builtin; refine Kd.R_append Kd.string (w0 := w) w.heap.size rfl (.tmp 21) (.tmp 24) 72 9 (.string ⟨#[]⟩) 16 rfl Tryd.underlying72 info9 rfl (by decide) (by omega) u6 x6_2 t141 [.string t141] (fun k_ => some k_ ≠ (u3 : Value).ownBlock) (fun _ => False) rfl rfl ?aP (fun _ hk => hk.elim) ?aF ?aO ?aB ?aS ?aL ?_; (case aP => exact rfl); (case aB => exact (by repeat (first | (with_reducible first | exact HB.out | apply la1 | apply ln1 | apply ld1) | exact HB.out))); (case aF => exact (fun k_ hk => Kd.fresh' (Kd.R_lt (by (with_reducible repeat (first | apply Kd.R_alloc | apply Kd.R_drewN | apply Kd.R_drew)); exact HO_3.out)) k_ hk)); (case aO => exact (by (with_reducible repeat (first | apply Kd.R_alloc | apply Kd.R_drewN | apply Kd.R_drew)); exact HO_6.out)); (case aS => exact (below_size (by repeat (first | (with_reducible first | exact HB.out | apply la1 | apply ln1 | apply ld1) | exact HB.out)))); (case aL => have := LMc9.out; omega); intro v143 w11 ho hb hg hat; rw [← Ny142.out] at ho; have n0_ := Aside0.mk (Kd.R_after (ok := (fun _ => True)) (by (with_reducible repeat (first | apply Kd.R_alloc | apply Kd.R_drewN | apply Kd.R_drew)); exact Kd.R_mono HO_3.out (fun _ hk => ⟨trivial, hk⟩)) hg hat); have n1_ := Aside0.mk (hb); have n2_ := Aside0.mk (ho); clear HO_3; clear HB; clear HO_6; have HO_3 := n0_; have HB := n1_; have HO144 := n2_; clear n0_ n1_ n2_; clear ho hb hg hat))
                        go_roundg k2
                        case measure => have := HK1.out; have := HK2.out; omega
                        case rel => exact ⟨(y142), (wrap64 (x17_2 + 1)), (by first | rfl | (simp; done) | (simp [*]; done)), H', ⟨by have := HK1.out; have := HK2.out; omega⟩, ⟨by (with_reducible repeat (first | apply Kd.R_alloc | apply Kd.R_drewN | apply Kd.R_drew)); exact Kd.R_mono HO_3.out (fun _ hk => hk.2)⟩, ⟨by (with_reducible repeat (first | apply Kd.R_alloc | apply Kd.R_drewN | apply Kd.R_drew)); exact HO144.out⟩, ⟨by repeat (first | (with_reducible first | exact HB.out | apply la1 | apply ln1 | apply ld1) | exact HB.out)⟩⟩
                      · rw [if_neg c9] at H
                        exact absurd H (by simp)
                    · rw [if_neg c7] at H
                      exact absurd H (by simp)
                  · rw [if_neg c6] at H
                    exact absurd H (by simp)
                · rw [if_neg c5] at H
                  have c5b0 : decide (x17_2 < ((rd_L1 l0 x11_1).length : Int)) = false := decide_eq_false c5
                  clear c5
                  replace H := Option.bind_eq_some_iff.mp H
                  obtain ⟨t145, A120, H⟩ := H
                  replace H : (if x3_1.length < 8796093022208 then (style_Text.l0 k2 (x3_1 ++ [t145]) l0 (l0.length : Int) (wrap64 (x11_1 + 1))) else (none)) = some r := H
                  have A12 := Aside0.mk A120
                  clear A120
                  by_cases c13 : x3_1.length < 8796093022208
                  · rw [if_pos c13] at H
                    have LMc13 := Aside0.mk c13
                    clear c13
                    obtain ⟨y146, hy146⟩ : ∃ y_ : List ByteArray, y_ = (x3_1 ++ [t145]) := ⟨_, rfl⟩
                    replace H : (style_Text.l0 k2 y146 l0 (l0.length : Int) (wrap64 (x11_1 + 1))) = some r := by first | (rw [hy146]; with_reducible exact H) | (have H2_ := (Option.bind_some _ _).symm.trans H; rw [hy146]; with_reducible exact H2_) | (have H2_ := (Option.bind_some _ _).symm.trans H; with_reducible exact H2_) | with_reducible exact H | (rw [hy146]; exact H) | exact H
                    have Ny146 := Aside0.mk hy146
                    clear hy146
                    have H' := Aside0.mk H
                    clear H
                    obtain ⟨Ao14, co14, eo14⟩ := Kd.R_slice HO_6.out
                    subst eo14
                    go_wp2_with (first | ((with_reducible refine gate_callee (f := 55) rfl ?_); refine goesL_ (some 29) rfl rfl Tryd.func55 (by kernel_rfl) rfl #[.slice Ao14 x6_2.length co14, .string (⟨#[58]⟩ : ByteArray)] rfl (by (try simp only [List.map_toArray, List.map_cons, List.map_nil]); first | done | rfl | (simp only [List.length_drop, List.length_take]; rfl)) ?_; (with_reducible refine (strings_Join.calls _ _ x6_2 (⟨#[58]⟩ : ByteArray) t145 _ ?side1 ?side2 A12.out).mono ?_); (case side1 => repeat (first | exact (Kd.R_reads' HO_6.out).2.2 | (with_reducible refine Kd.C_alloc ?_ _) | (with_reducible refine Kd.C_drewN ?_ _) | (with_reducible refine Kd.C_drew ?_))); (case side2 => exact (Kd.R_reads' HO_6.out).2.1); rintro e w15 ⟨rfl, hb⟩; refine ⟨_, rfl, ?_⟩; have n0_ := Aside0.mk (Kd.R_below (by (with_reducible repeat (first | apply Kd.R_alloc | apply Kd.R_drewN | apply Kd.R_drew)); exact HO_3.out) hb); have n1_ := Aside0.mk (Kd.R_below (by (with_reducible repeat (first | apply Kd.R_alloc | apply Kd.R_drewN | apply Kd.R_drew)); exact HO_6.out) hb); have n2_ := Aside0.mk (below_step (by repeat (first | (with_reducible first | exact HB.out | apply la1 | apply ln1 | apply ld1) | exact HB.out)) hb); clear HO_3; clear HO_6; clear HB; have HO_3 := n0_; have HO_6 := n1_; have HB := n2_; clear n0_ n1_ n2_; (try clear hb); (try clear hb2); (try clear hk); (try clear hi)) | ((with_reducible refine gate_builtin (b := .append) (xs := #[.tmp 27, .tmp 30]) rfl ?_); at_builtin; refine Kd.R_append Kd.string (w0 := w) w.heap.size rfl (.tmp 27) (.tmp 30) 72 9 (.string ⟨#[]⟩) 16 rfl Tryd.underlying72 info9 rfl (by decide) (by omega) u3 x3_1 t145 [.string t145] (fun k_ => some k_ ≠ (.slice Ao14 x6_2.length co14 : Value).ownBlock) (fun _ => False) rfl rfl ?aP (fun _ hk => hk.elim) ?aF ?aO ?aB ?aS ?aL ?_; (case aP => exact rfl); (case aB => exact (by repeat (first | (with_reducible first | exact HB.out | apply la1 | apply ln1 | apply ld1) | exact HB.out))); (case aF => exact (fun k_ hk => Kd.fresh' (Kd.R_lt (by (with_reducible repeat (first | apply Kd.R_alloc | apply Kd.R_drewN | apply Kd.R_drew)); exact HO_6.out)) k_ hk)); (case aO => exact (by (with_reducible repeat (first | apply Kd.R_alloc | apply Kd.R_drewN | apply Kd.R_drew)); exact HO_3.out)); (case aS => exact (below_size (by repeat (first | (with_reducible first | exact HB.out | apply la1 | apply ln1 | apply ld1) | exact HB.out)))); (case aL => have := LMc13.out; omega); intro v147 w16 ho hb hg hat; rw [← Ny146.out] at ho; have n0_ := Aside0.mk (Kd.R_after (ok := (fun _ => True)) (by (with_reducible repeat (first | apply Kd.R_alloc | apply Kd.R_drewN | apply Kd.R_drew)); exact Kd.R_mono HO_6.out (fun _ hk => ⟨trivial, hk⟩)) hg hat); have n1_ := Aside0.mk (hb); have n2_ := Aside0.mk (ho); clear HO_6; clear HB; clear HO_3; have HO_6 := n0_; have HB := n1_; have HO148 := n2_; clear n0_ n1_ n2_; clear ho hb hg hat))
                    go_roundg k2
                    case measure => have := HK1.out; have := HK2.out; omega
                    case rel => exact ⟨(y146), (wrap64 (x11_1 + 1)), (by first | rfl | (simp; done) | (simp [*]; done)), H', ⟨by have := HK1.out; have := HK2.out; omega⟩, ⟨by (with_reducible repeat (first | apply Kd.R_alloc | apply Kd.R_drewN | apply Kd.R_drew)); exact Kd.R_mono HO148.out (fun _ hk => trivial)⟩, ⟨by repeat (first | (with_reducible first | exact HB.out | apply la1 | apply ln1 | apply ld1) | exact HB.out)⟩⟩
                  · rw [if_neg c13] at H
                    exact absurd H (by simp)
          · rw [if_neg c4] at H
            exact absurd H (by simp)
        · rw [if_neg c3] at H
          exact absurd H (by simp)
      · rw [if_neg c2] at H
        have c2b0 : decide (x11_1 < (l0.length : Int)) = false := decide_eq_false c2
        clear c2
        replace H := Option.bind_eq_some_iff.mp H
        obtain ⟨t138, A170, H⟩ := H
        replace H : (some t138) = some r := H
        have A17 := Aside0.mk A170
        clear A170
        obtain rfl := Option.some.inj H
        obtain ⟨Ao18, co18, eo18⟩ := Kd.R_slice HO_3.out
        subst eo18
        go_wp2_with (first | ((with_reducible refine gate_callee (f := 55) rfl ?_); refine goesL_ (some 34) rfl rfl Tryd.func55 (by kernel_rfl) rfl #[.slice Ao18 x3_1.length co18, .string (⟨#[59]⟩ : ByteArray)] rfl (by (try simp only [List.map_toArray, List.map_cons, List.map_nil]); first | done | rfl | (simp only [List.length_drop, List.length_take]; rfl)) ?_; (with_reducible refine (strings_Join.calls _ _ x3_1 (⟨#[59]⟩ : ByteArray) t138 _ ?side1 ?side2 A17.out).mono ?_); (case side1 => repeat (first | exact (Kd.R_reads' HO_3.out).2.2 | (with_reducible refine Kd.C_alloc ?_ _) | (with_reducible refine Kd.C_drewN ?_ _) | (with_reducible refine Kd.C_drew ?_))); (case side2 => exact (Kd.R_reads' HO_3.out).2.1); rintro e w19 ⟨rfl, hb⟩; refine ⟨_, rfl, ?_⟩; have n0_ := Aside0.mk (Kd.R_below (by (with_reducible repeat (first | apply Kd.R_alloc | apply Kd.R_drewN | apply Kd.R_drew)); exact HO_3.out) hb); have n1_ := Aside0.mk (below_step (by repeat (first | (with_reducible first | exact HB.out | apply la1 | apply ln1 | apply ld1) | exact HB.out)) hb); clear HO_3; clear HB; have HO_3 := n0_; have HB := n1_; clear n0_ n1_; (try clear hb); (try clear hb2); (try clear hk); (try clear hi)))
        go_ret
        exact ⟨by first | rfl | (simp [errW_none, errW_some] <;> rfl) | (simp [*, errW_none, errW_some] <;> rfl), by repeat (first | (with_reducible first | exact HB.out | apply la1 | apply ln1 | apply ld1) | exact HB.out)⟩
end Go.Proofs.YtopcleljecdkkaaDoor.G
end
section
namespace Go.Proofs.YtopcleljecdkkaaDoor.G
open Go.RowKit Go.Proofs.YtopcleljecdkkaaDoorW.PrintWords Go.Proofs.YtopcleljecdkkaaDoorW.PrintLast Go.Proofs.YtopcleljecdkkaaDoorW.PrintMore
attribute [local go_sem] max2_int min2_int max_two min_two max_three min_three max_four min_four
set_option linter.unusedVariables false
set_option linter.unusedSimpArgs false
def clavierref01_Text.f (a0 : Int) : Option (ByteArray) := if -9223372036854775808 ≤ a0 ∧ a0 ≤ 9223372036854775807 then some ⟨(textL a0).toArray⟩ else none
theorem clavierref01_Text.calls (a0 : Int) (r : ByteArray) (w : World) (h : clavierref01_Text.f a0 = some r) :
    Calls Tryd.prog 63 #[.int .i64 a0] w fun e w' => e = .returned (.string r) ∧ Below w.heap.size w w' := by
  unfold clavierref01_Text.f at h
  by_cases hb : -9223372036854775808 ≤ a0 ∧ a0 ≤ 9223372036854775807
  · rw [if_pos hb] at h
    obtain rfl := Option.some.inj h
    exact refText_calls a0 hb.2 w
  · rw [if_neg hb] at h; cases h
end Go.Proofs.YtopcleljecdkkaaDoor.G
end
section
namespace Go.Proofs.YtopcleljecdkkaaDoor.G
open Go.RowKit Go.Proofs.YtopcleljecdkkaaDoorW.PrintWords Go.Proofs.YtopcleljecdkkaaDoorW.PrintLast Go.Proofs.YtopcleljecdkkaaDoorW.PrintMore
attribute [local go_sem] max2_int min2_int max_two min_two max_three min_three max_four min_four
set_option linter.unusedVariables false
set_option linter.unusedSimpArgs false
def style_May_1.f (a0 : Int) : Option (Bool) := if a0 ≥ (-1) then (some (decide (a0 < 16777472))) else (some false)
set_option maxHeartbeats 8000000 in
set_option maxRecDepth 100000 in
theorem style_May_1.calls (a0 : Int) (r : Bool) (w : World) (h : style_May_1.f a0 = some r) :
    Calls Tryd.prog 59 #[.int .i64 a0] w fun e w' => e = .returned (.bool r) ∧ Drawn0 w w' := by
  have H : (if a0 ≥ (-1) then (some (decide (a0 < 16777472))) else (some false)) = some r := h
  clear h
  by_cases c2 : a0 ≥ (-1)
  · rw [if_pos c2] at H
    have c2b0 : decide ((-1) ≤ a0) = true := decide_eq_true c2
    clear c2
    obtain rfl := Option.some.inj H
    go_enter Tryd.func59, Tryd.ntmps59
    go_wp2
    go_ret
    exact ⟨by first | rfl | (simp; done) | (simp [*]; done), by repeat (first | exact Drawn0.refl _ | apply Drawn0.step)⟩
  · rw [if_neg c2] at H
    have c2b0 : decide ((-1) ≤ a0) = false := decide_eq_false c2
    clear c2
    obtain rfl := Option.some.inj H
    go_enter Tryd.func59, Tryd.ntmps59
    go_wp2
    go_ret
    exact ⟨by first | rfl | (simp; done) | (simp [*]; done), by repeat (first | exact Drawn0.refl _ | apply Drawn0.step)⟩
def style_May.f (a0_0 : Bool) (a0_1 : Bool) (a0_2 : Bool) (a0_3 : Bool) (a0_4 : Bool) (a0_5 : Bool) (a0_6 : Bool) (a0_7 : Int) (a0_8 : Int) (a0_9 : Int) : Option (Bool) := if a0_7 ≥ 0 then (if a0_7 ≤ 5 then ((style_May_1.f a0_8).bind fun t150 => (if t150 = true then ((style_May_1.f a0_9).bind fun t151 => (some t151)) else (some false))) else (some false)) else (some false)
set_option maxHeartbeats 8000000 in
set_option maxRecDepth 100000 in
theorem style_May.calls (a0_0 : Bool) (a0_1 : Bool) (a0_2 : Bool) (a0_3 : Bool) (a0_4 : Bool) (a0_5 : Bool) (a0_6 : Bool) (a0_7 : Int) (a0_8 : Int) (a0_9 : Int) (r : Bool) (w : World) (h : style_May.f a0_0 a0_1 a0_2 a0_3 a0_4 a0_5 a0_6 a0_7 a0_8 a0_9 = some r) :
    Calls Tryd.prog 42 #[.agg #[.bool a0_0, .bool a0_1, .bool a0_2, .bool a0_3, .bool a0_4, .bool a0_5, .bool a0_6, .int .i64 a0_7, .int .i64 a0_8, .int .i64 a0_9]] w fun e w' => e = .returned (.bool r) ∧ Below w.heap.size w w' := by
  have hu23 := Tryd.underlying23
  have HB := Aside0.mk (Below.refl w.heap.size w)
  have H : (if a0_7 ≥ 0 then (if a0_7 ≤ 5 then ((style_May_1.f a0_8).bind fun t150 => (if t150 = true then ((style_May_1.f a0_9).bind fun t151 => (some t151)) else (some false))) else (some false)) else (some false)) = some r := h
  clear h
  by_cases c2 : a0_7 ≥ 0
  · rw [if_pos c2] at H
    have c2b0 : decide (0 ≤ a0_7) = true := decide_eq_true c2
    clear c2
    by_cases c3 : a0_7 ≤ 5
    · rw [if_pos c3] at H
      have c3b0 : decide (a0_7 ≤ 5) = true := decide_eq_true c3
      clear c3
      replace H := Option.bind_eq_some_iff.mp H
      obtain ⟨t150, A40, H⟩ := H
      replace H : (if t150 = true then ((style_May_1.f a0_9).bind fun t151 => (some t151)) else (some false)) = some r := H
      have A4 := Aside0.mk A40
      clear A40
      by_cases c5 : t150 = true
      · subst c5
        have H1 : ((style_May_1.f a0_9).bind fun t151 => (some t151)) = some r := by rw [if_pos rfl] at H; exact H
        clear H
        have H := H1
        clear H1
        replace H := Option.bind_eq_some_iff.mp H
        obtain ⟨t151, A60, H⟩ := H
        replace H : (some t151) = some r := H
        have A6 := Aside0.mk A60
        clear A60
        obtain rfl := Option.some.inj H
        go_enter Tryd.func42, Tryd.ntmps42
        go_wp2_with (first | ((with_reducible refine gate_dst (N := 1) rfl ?_); refine box_event ?hg (N := 1) ?hd (cs := #[.bool a0_0, .bool a0_1, .bool a0_2, .bool a0_3, .bool a0_4, .bool a0_5, .bool a0_6, .int .i64 a0_7, .int .i64 a0_8, .int .i64 a0_9]) (t := 23) ?hr ?_; (case hd => rfl); (case hg => rfl); (case hr => first | (go_simp; done) | (go_simp; rfl)); intro gb149 hg w7 hbox hb; have n0_ := Aside0.mk (below_step (by repeat (first | (with_reducible first | exact HB.out | apply la1 | apply ln1 | apply ld1) | exact HB.out)) hb); have n1_ := Aside0.mk (hbox); have n2_ := Aside0.mk ((by rw [hg]; exact (below_size (by repeat (first | (with_reducible first | exact HB.out | apply la1 | apply ln1 | apply ld1) | exact HB.out))) : w.heap.size ≤ gb149)); have n3_ := Aside0.mk ((by rw [hg]; exact (below_size (by repeat (first | (with_reducible first | exact HB.out | apply la1 | apply ln1 | apply ld1) | exact HB.out))) : w.heap.size ≤ gb149)); clear HB; have HB := n0_; have BK149 := n1_; have GW149 := n2_; have GE149 := n3_; clear n0_ n1_ n2_ n3_; clear hb hbox hg; have hcz8_0 : w7.cell? ⟨gb149, 0, none⟩ = some (.bool a0_0) := (bc1 BK149.out 0).trans rfl; have hcz8_1 : w7.cell? ⟨gb149, 1, none⟩ = some (.bool a0_1) := (bc1 BK149.out 1).trans rfl; have hcz8_2 : w7.cell? ⟨gb149, 2, none⟩ = some (.bool a0_2) := (bc1 BK149.out 2).trans rfl; have hcz8_3 : w7.cell? ⟨gb149, 3, none⟩ = some (.bool a0_3) := (bc1 BK149.out 3).trans rfl; have hcz8_4 : w7.cell? ⟨gb149, 4, none⟩ = some (.bool a0_4) := (bc1 BK149.out 4).trans rfl; have hcz8_5 : w7.cell? ⟨gb149, 5, none⟩ = some (.bool a0_5) := (bc1 BK149.out 5).trans rfl; have hcz8_6 : w7.cell? ⟨gb149, 6, none⟩ = some (.bool a0_6) := (bc1 BK149.out 6).trans rfl; have hcz8_7 : w7.cell? ⟨gb149, 7, none⟩ = some (.int .i64 a0_7) := (bc1 BK149.out 7).trans rfl; have hcz8_8 : w7.cell? ⟨gb149, 8, none⟩ = some (.int .i64 a0_8) := (bc1 BK149.out 8).trans rfl; have hcz8_9 : w7.cell? ⟨gb149, 9, none⟩ = some (.int .i64 a0_9) := (bc1 BK149.out 9).trans rfl; have hfz8_0 := bz1 BK149.out 0; have hfz8_1 := bz1 BK149.out 1; have hfz8_2 := bz1 BK149.out 2; have hfz8_3 := bz1 BK149.out 3; have hfz8_4 := bz1 BK149.out 4; have hfz8_5 := bz1 BK149.out 5; have hfz8_6 := bz1 BK149.out 6; have hfz8_7 := bz1 BK149.out 7; have hfz8_8 := bz1 BK149.out 8; have hfz8_9 := bz1 BK149.out 9) | (go_at_call 59; refine calls_of_args (args' := #[.int .i64 a0_8]) (by first | rfl | (simp only [List.length_drop, List.length_take]; done) | (simp only [List.length_drop, List.length_take]; rfl)) ?_; (with_reducible refine (style_May_1.calls a0_8 true _ A4.out).mono ?_); rintro e w' ⟨rfl, ⟨nd, rfl⟩⟩) | (go_at_call 59; refine calls_of_args (args' := #[.int .i64 a0_9]) (by first | rfl | (simp only [List.length_drop, List.length_take]; done) | (simp only [List.length_drop, List.length_take]; rfl)) ?_; (with_reducible refine (style_May_1.calls a0_9 t151 _ A6.out).mono ?_); rintro e w' ⟨rfl, ⟨nd, rfl⟩⟩))
        go_ret
        exact ⟨by first | rfl | (simp [errW_none, errW_some] <;> rfl) | (simp [*, errW_none, errW_some] <;> rfl), by repeat (first | (with_reducible first | exact HB.out | apply la1 | apply ln1 | apply ld1 | refine ls1 ?_ GE149.out) | exact HB.out)⟩
      · replace c5 := Bool.eq_false_iff.mpr c5
        subst c5
        have H1 : (some false) = some r := by rw [if_neg (show ¬ (false = true) by decide)] at H; exact H
        clear H
        have H := H1
        clear H1
        obtain rfl := Option.some.inj H
        go_enter Tryd.func42, Tryd.ntmps42
        go_wp2_with (first | ((with_reducible refine gate_dst (N := 1) rfl ?_); refine box_event ?hg (N := 1) ?hd (cs := #[.bool a0_0, .bool a0_1, .bool a0_2, .bool a0_3, .bool a0_4, .bool a0_5, .bool a0_6, .int .i64 a0_7, .int .i64 a0_8, .int .i64 a0_9]) (t := 23) ?hr ?_; (case hd => rfl); (case hg => rfl); (case hr => first | (go_simp; done) | (go_simp; rfl)); intro gb149 hg w9 hbox hb; have n0_ := Aside0.mk (below_step (by repeat (first | (with_reducible first | exact HB.out | apply la1 | apply ln1 | apply ld1) | exact HB.out)) hb); have n1_ := Aside0.mk (hbox); have n2_ := Aside0.mk ((by rw [hg]; exact (below_size (by repeat (first | (with_reducible first | exact HB.out | apply la1 | apply ln1 | apply ld1) | exact HB.out))) : w.heap.size ≤ gb149)); have n3_ := Aside0.mk ((by rw [hg]; exact (below_size (by repeat (first | (with_reducible first | exact HB.out | apply la1 | apply ln1 | apply ld1) | exact HB.out))) : w.heap.size ≤ gb149)); clear HB; have HB := n0_; have BK149 := n1_; have GW149 := n2_; have GE149 := n3_; clear n0_ n1_ n2_ n3_; clear hb hbox hg; have hcz10_0 : w9.cell? ⟨gb149, 0, none⟩ = some (.bool a0_0) := (bc1 BK149.out 0).trans rfl; have hcz10_1 : w9.cell? ⟨gb149, 1, none⟩ = some (.bool a0_1) := (bc1 BK149.out 1).trans rfl; have hcz10_2 : w9.cell? ⟨gb149, 2, none⟩ = some (.bool a0_2) := (bc1 BK149.out 2).trans rfl; have hcz10_3 : w9.cell? ⟨gb149, 3, none⟩ = some (.bool a0_3) := (bc1 BK149.out 3).trans rfl; have hcz10_4 : w9.cell? ⟨gb149, 4, none⟩ = some (.bool a0_4) := (bc1 BK149.out 4).trans rfl; have hcz10_5 : w9.cell? ⟨gb149, 5, none⟩ = some (.bool a0_5) := (bc1 BK149.out 5).trans rfl; have hcz10_6 : w9.cell? ⟨gb149, 6, none⟩ = some (.bool a0_6) := (bc1 BK149.out 6).trans rfl; have hcz10_7 : w9.cell? ⟨gb149, 7, none⟩ = some (.int .i64 a0_7) := (bc1 BK149.out 7).trans rfl; have hcz10_8 : w9.cell? ⟨gb149, 8, none⟩ = some (.int .i64 a0_8) := (bc1 BK149.out 8).trans rfl; have hcz10_9 : w9.cell? ⟨gb149, 9, none⟩ = some (.int .i64 a0_9) := (bc1 BK149.out 9).trans rfl; have hfz10_0 := bz1 BK149.out 0; have hfz10_1 := bz1 BK149.out 1; have hfz10_2 := bz1 BK149.out 2; have hfz10_3 := bz1 BK149.out 3; have hfz10_4 := bz1 BK149.out 4; have hfz10_5 := bz1 BK149.out 5; have hfz10_6 := bz1 BK149.out 6; have hfz10_7 := bz1 BK149.out 7; have hfz10_8 := bz1 BK149.out 8; have hfz10_9 := bz1 BK149.out 9) | (go_at_call 59; refine calls_of_args (args' := #[.int .i64 a0_8]) (by first | rfl | (simp only [List.length_drop, List.length_take]; done) | (simp only [List.length_drop, List.length_take]; rfl)) ?_; (with_reducible refine (style_May_1.calls a0_8 false _ A4.out).mono ?_); rintro e w' ⟨rfl, ⟨nd, rfl⟩⟩))
        go_ret
        exact ⟨by first | rfl | (simp [errW_none, errW_some] <;> rfl) | (simp [*, errW_none, errW_some] <;> rfl), by repeat (first | (with_reducible first | exact HB.out | apply la1 | apply ln1 | apply ld1 | refine ls1 ?_ GE149.out) | exact HB.out)⟩
    · rw [if_neg c3] at H
      have c3b0 : decide (a0_7 ≤ 5) = false := decide_eq_false c3
      clear c3
      obtain rfl := Option.some.inj H
      go_enter Tryd.func42, Tryd.ntmps42
      go_wp2_with (first | ((with_reducible refine gate_dst (N := 1) rfl ?_); refine box_event ?hg (N := 1) ?hd (cs := #[.bool a0_0, .bool a0_1, .bool a0_2, .bool a0_3, .bool a0_4, .bool a0_5, .bool a0_6, .int .i64 a0_7, .int .i64 a0_8, .int .i64 a0_9]) (t := 23) ?hr ?_; (case hd => rfl); (case hg => rfl); (case hr => first | (go_simp; done) | (go_simp; rfl)); intro gb149 hg w11 hbox hb; have n0_ := Aside0.mk (below_step (by repeat (first | (with_reducible first | exact HB.out | apply la1 | apply ln1 | apply ld1) | exact HB.out)) hb); have n1_ := Aside0.mk (hbox); have n2_ := Aside0.mk ((by rw [hg]; exact (below_size (by repeat (first | (with_reducible first | exact HB.out | apply la1 | apply ln1 | apply ld1) | exact HB.out))) : w.heap.size ≤ gb149)); have n3_ := Aside0.mk ((by rw [hg]; exact (below_size (by repeat (first | (with_reducible first | exact HB.out | apply la1 | apply ln1 | apply ld1) | exact HB.out))) : w.heap.size ≤ gb149)); clear HB; have HB := n0_; have BK149 := n1_; have GW149 := n2_; have GE149 := n3_; clear n0_ n1_ n2_ n3_; clear hb hbox hg; have hcz12_0 : w11.cell? ⟨gb149, 0, none⟩ = some (.bool a0_0) := (bc1 BK149.out 0).trans rfl; have hcz12_1 : w11.cell? ⟨gb149, 1, none⟩ = some (.bool a0_1) := (bc1 BK149.out 1).trans rfl; have hcz12_2 : w11.cell? ⟨gb149, 2, none⟩ = some (.bool a0_2) := (bc1 BK149.out 2).trans rfl; have hcz12_3 : w11.cell? ⟨gb149, 3, none⟩ = some (.bool a0_3) := (bc1 BK149.out 3).trans rfl; have hcz12_4 : w11.cell? ⟨gb149, 4, none⟩ = some (.bool a0_4) := (bc1 BK149.out 4).trans rfl; have hcz12_5 : w11.cell? ⟨gb149, 5, none⟩ = some (.bool a0_5) := (bc1 BK149.out 5).trans rfl; have hcz12_6 : w11.cell? ⟨gb149, 6, none⟩ = some (.bool a0_6) := (bc1 BK149.out 6).trans rfl; have hcz12_7 : w11.cell? ⟨gb149, 7, none⟩ = some (.int .i64 a0_7) := (bc1 BK149.out 7).trans rfl; have hcz12_8 : w11.cell? ⟨gb149, 8, none⟩ = some (.int .i64 a0_8) := (bc1 BK149.out 8).trans rfl; have hcz12_9 : w11.cell? ⟨gb149, 9, none⟩ = some (.int .i64 a0_9) := (bc1 BK149.out 9).trans rfl; have hfz12_0 := bz1 BK149.out 0; have hfz12_1 := bz1 BK149.out 1; have hfz12_2 := bz1 BK149.out 2; have hfz12_3 := bz1 BK149.out 3; have hfz12_4 := bz1 BK149.out 4; have hfz12_5 := bz1 BK149.out 5; have hfz12_6 := bz1 BK149.out 6; have hfz12_7 := bz1 BK149.out 7; have hfz12_8 := bz1 BK149.out 8; have hfz12_9 := bz1 BK149.out 9))
      go_ret
      exact ⟨by first | rfl | (simp [errW_none, errW_some] <;> rfl) | (simp [*, errW_none, errW_some] <;> rfl), by repeat (first | (with_reducible first | exact HB.out | apply la1 | apply ln1 | apply ld1 | refine ls1 ?_ GE149.out) | exact HB.out)⟩
  · rw [if_neg c2] at H
    have c2b0 : decide (0 ≤ a0_7) = false := decide_eq_false c2
    clear c2
    obtain rfl := Option.some.inj H
    go_enter Tryd.func42, Tryd.ntmps42
    go_wp2_with (first | ((with_reducible refine gate_dst (N := 1) rfl ?_); refine box_event ?hg (N := 1) ?hd (cs := #[.bool a0_0, .bool a0_1, .bool a0_2, .bool a0_3, .bool a0_4, .bool a0_5, .bool a0_6, .int .i64 a0_7, .int .i64 a0_8, .int .i64 a0_9]) (t := 23) ?hr ?_; (case hd => rfl); (case hg => rfl); (case hr => first | (go_simp; done) | (go_simp; rfl)); intro gb149 hg w13 hbox hb; have n0_ := Aside0.mk (below_step (by repeat (first | (with_reducible first | exact HB.out | apply la1 | apply ln1 | apply ld1) | exact HB.out)) hb); have n1_ := Aside0.mk (hbox); have n2_ := Aside0.mk ((by rw [hg]; exact (below_size (by repeat (first | (with_reducible first | exact HB.out | apply la1 | apply ln1 | apply ld1) | exact HB.out))) : w.heap.size ≤ gb149)); have n3_ := Aside0.mk ((by rw [hg]; exact (below_size (by repeat (first | (with_reducible first | exact HB.out | apply la1 | apply ln1 | apply ld1) | exact HB.out))) : w.heap.size ≤ gb149)); clear HB; have HB := n0_; have BK149 := n1_; have GW149 := n2_; have GE149 := n3_; clear n0_ n1_ n2_ n3_; clear hb hbox hg; have hcz14_0 : w13.cell? ⟨gb149, 0, none⟩ = some (.bool a0_0) := (bc1 BK149.out 0).trans rfl; have hcz14_1 : w13.cell? ⟨gb149, 1, none⟩ = some (.bool a0_1) := (bc1 BK149.out 1).trans rfl; have hcz14_2 : w13.cell? ⟨gb149, 2, none⟩ = some (.bool a0_2) := (bc1 BK149.out 2).trans rfl; have hcz14_3 : w13.cell? ⟨gb149, 3, none⟩ = some (.bool a0_3) := (bc1 BK149.out 3).trans rfl; have hcz14_4 : w13.cell? ⟨gb149, 4, none⟩ = some (.bool a0_4) := (bc1 BK149.out 4).trans rfl; have hcz14_5 : w13.cell? ⟨gb149, 5, none⟩ = some (.bool a0_5) := (bc1 BK149.out 5).trans rfl; have hcz14_6 : w13.cell? ⟨gb149, 6, none⟩ = some (.bool a0_6) := (bc1 BK149.out 6).trans rfl; have hcz14_7 : w13.cell? ⟨gb149, 7, none⟩ = some (.int .i64 a0_7) := (bc1 BK149.out 7).trans rfl; have hcz14_8 : w13.cell? ⟨gb149, 8, none⟩ = some (.int .i64 a0_8) := (bc1 BK149.out 8).trans rfl; have hcz14_9 : w13.cell? ⟨gb149, 9, none⟩ = some (.int .i64 a0_9) := (bc1 BK149.out 9).trans rfl; have hfz14_0 := bz1 BK149.out 0; have hfz14_1 := bz1 BK149.out 1; have hfz14_2 := bz1 BK149.out 2; have hfz14_3 := bz1 BK149.out 3; have hfz14_4 := bz1 BK149.out 4; have hfz14_5 := bz1 BK149.out 5; have hfz14_6 := bz1 BK149.out 6; have hfz14_7 := bz1 BK149.out 7; have hfz14_8 := bz1 BK149.out 8; have hfz14_9 := bz1 BK149.out 9))
    go_ret
    exact ⟨by first | rfl | (simp [errW_none, errW_some] <;> rfl) | (simp [*, errW_none, errW_some] <;> rfl), by repeat (first | (with_reducible first | exact HB.out | apply la1 | apply ln1 | apply ld1 | refine ls1 ?_ GE149.out) | exact HB.out)⟩
def style_parts.f (l0 : List Int) : Option (List Int) := some l0
set_option maxHeartbeats 8000000 in
set_option maxRecDepth 100000 in
theorem style_parts.calls (P0_ : Nat → Prop) (u9000_ : Value) (l0 : List Int) (r : List Int) (w0 w : World) (hB : Below w0.heap.size w0 w) (ho0 : Kd.R (Kd.int .i64) 3 w w0.heap.size P0_ u9000_ l0) (h : style_parts.f l0 = some r) :
    Calls Tryd.prog 57 #[u9000_] w fun e w' => ∃ v0_ : Value, e = .returned (v0_) ∧ Kd.R (Kd.int .i64) 3 w' w0.heap.size (fun k_ => (P0_ k_ ∨ w.heap.size ≤ k_)) v0_ r ∧ Below w0.heap.size w0 w' ∧ Kept w w' (fun k_ => P0_ k_) := by
  have HO0 := Aside0.mk (show Kd.R (Kd.int .i64) 3 w w0.heap.size (fun k_ => (P0_ k_ ∨ w.heap.size ≤ k_)) u9000_ l0 from Kd.R_mono ho0 (fun k_ hk => (.inl hk)))
  have HK := Aside0.mk (Kept.refl w (fun k_ => P0_ k_))
  have HW0 := Aside0.mk hB.size
  have HB := Aside0.mk hB
  clear hB
  have H : (some l0) = some r := h
  clear h
  obtain rfl := Option.some.inj H
  go_enter Tryd.func57, Tryd.ntmps57
  go_wp2
  go_ret
  exact ⟨_, by first | rfl | (simp [errW_none, errW_some] <;> rfl) | (simp [*, errW_none, errW_some] <;> rfl), by (with_reducible repeat (first | apply Kd.R_alloc | apply Kd.R_drewN | apply Kd.R_drew)); exact HO0.out, by repeat (first | (with_reducible first | exact HB.out | apply la1 | apply ln1 | apply ld1) | exact HB.out), by repeat (first | (with_reducible first | exact HK.out | apply Kept.alloc | apply Kept.drewN | apply Kept.drew) | exact HK.out)⟩
def style_tint.f (a0 : Int) (a1 : Int) : Option (List Int) := if a0 < 8 then ((style_parts.f (([wrap64 (a1 + a0)] : List Int))).bind fun t155 => (some t155)) else (if a0 < 16 then ((style_parts.f (([wrap64 ((wrap64 (a1 + 52)) + a0)] : List Int))).bind fun t161 => (some t161)) else (if a0 < 256 then ((style_parts.f (([wrap64 (a1 + 8), 5, a0] : List Int))).bind fun t167 => (some t167)) else ((style_parts.f (([wrap64 (a1 + 8), 2, (-1), wrap64 (Int.tdiv (wrap64 (a0 - 256)) 65536), Int.tmod (wrap64 (Int.tdiv (wrap64 (a0 - 256)) 256)) 256, Int.tmod (wrap64 (a0 - 256)) 256] : List Int))).bind fun t173 => (some t173))))
set_option maxHeartbeats 8000000 in
set_option maxRecDepth 100000 in
theorem style_tint.calls (a0 : Int) (a1 : Int) (r : List Int) (w : World) (h : style_tint.f a0 a1 = some r) :
    Calls Tryd.prog 58 #[.int .i64 a0, .int .i64 a1] w fun e w' => ∃ v0_ : Value, e = .returned (v0_) ∧ Kd.R (Kd.int .i64) 3 w' w.heap.size (fun _ => True) v0_ r ∧ Below w.heap.size w w' := by
  have HB := Aside0.mk (Below.refl w.heap.size w)
  have H : (if a0 < 8 then ((style_parts.f (([wrap64 (a1 + a0)] : List Int))).bind fun t155 => (some t155)) else (if a0 < 16 then ((style_parts.f (([wrap64 ((wrap64 (a1 + 52)) + a0)] : List Int))).bind fun t161 => (some t161)) else (if a0 < 256 then ((style_parts.f (([wrap64 (a1 + 8), 5, a0] : List Int))).bind fun t167 => (some t167)) else ((style_parts.f (([wrap64 (a1 + 8), 2, (-1), wrap64 (Int.tdiv (wrap64 (a0 - 256)) 65536), Int.tmod (wrap64 (Int.tdiv (wrap64 (a0 - 256)) 256)) 256, Int.tmod (wrap64 (a0 - 256)) 256] : List Int))).bind fun t173 => (some t173))))) = some r := h
  clear h
  by_cases c3 : a0 < 8
  · rw [if_pos c3] at H
    have c3b0 : decide (a0 < 8) = true := decide_eq_true c3
    clear c3
    obtain ⟨y152, hy152⟩ : ∃ y_ : List Int, y_ = (([wrap64 (a1 + a0)] : List Int)) := ⟨_, rfl⟩
    replace H : ((style_parts.f y152).bind fun t155 => (some t155)) = some r := by first | (rw [hy152]; with_reducible exact H) | (have H2_ := (Option.bind_some _ _).symm.trans H; rw [hy152]; with_reducible exact H2_) | (have H2_ := (Option.bind_some _ _).symm.trans H; with_reducible exact H2_) | with_reducible exact H | (rw [hy152]; exact H) | exact H
    have Ny152 := Aside0.mk hy152
    clear hy152
    replace H := Option.bind_eq_some_iff.mp H
    obtain ⟨t155, A40, H⟩ := H
    replace H : (some t155) = some r := H
    have A4 := Aside0.mk A40
    clear A40
    obtain rfl := Option.some.inj H
    go_enter Tryd.func58, Tryd.ntmps58
    go_wp2_with (first | ((with_reducible refine gate_dst (N := 12) rfl ?_); refine Kd.R_lit (Kd.int .i64) _ 3 ?hg (N := 12) ?hd (xs := ([wrap64 (a1 + a0)] : List Int)) (inner := [.int .i64 (wrap64 (a1 + a0))]) (ok := fun _ => True) (okp := fun _ => True) ?hr ?hp (fun _ hk => hk) trivial (Below.refl _ _) (Nat.le_refl _) (by simp) ?_; (case hd => rfl); (case hg => rfl); (case hr => first | (go_simp; done) | (go_simp; rfl)); (case hp => exact (Reps.one (show Kd.M (Kd.int .i64) _ _ _ (wrap64 (a1 + a0)) [.int .i64 (wrap64 (a1 + a0))] from rfl) (Reps.none _ _))); intro v153 w5 ho6 hb hg_ hnew_; clear hg_ hnew_; (first | rw [← Ny152.out] at ho6 | (simp only [Int.reduceToNat] at ho6; rw [← Ny152.out] at ho6)); have n0_ := Aside0.mk (Kd.R_lower ho6 (below_size (by repeat (first | (with_reducible first | exact HB.out | apply la1 | apply ln1 | apply ld1) | exact HB.out)))); have n1_ := Aside0.mk (below_step (by repeat (first | (with_reducible first | exact HB.out | apply la1 | apply ln1 | apply ld1) | exact HB.out)) hb); clear HB; have HO154 := n0_; have HB := n1_; clear n0_ n1_; clear hb ho6; obtain ⟨Ao7, co7, eo7⟩ := Kd.R_slice HO154.out; subst eo7) | ((with_reducible refine gate_callee (f := 57) rfl ?_); refine goesL_ (some 13) rfl rfl Tryd.func57 (by kernel_rfl) rfl #[.slice Ao7 y152.length co7] rfl (by (try simp only [List.map_toArray, List.map_cons, List.map_nil]); first | done | rfl | (simp only [List.length_drop, List.length_take]; rfl)) ?_; (with_reducible refine (style_parts.calls (fun k_ => some k_ = (.slice Ao7 y152.length co7 : Value).ownBlock) (.slice Ao7 y152.length co7) y152 t155 w _ ?side1 ?side2 A4.out).mono ?_); (case side1 => repeat (first | (with_reducible first | exact HB.out | apply la1 | apply ln1 | apply ld1) | exact HB.out)); (case side2 => exact Kd.R_tight rfl HO154.out); rintro e w8 ⟨v156, rfl, ho0, hb, hkp⟩; refine ⟨_, rfl, ?_⟩; have n0_ := Aside0.mk (Kd.R_mono (ok' := fun k_ => True) ho0 (fun k_ hk_ => trivial)); have n1_ := Aside0.mk (hb); clear HB; clear HO154; have HO157 := n0_; have HB := n1_; clear n0_ n1_; (try clear hb); (try clear hkp); (try clear ho0)))
    go_ret
    exact ⟨_, by first | rfl | (simp [errW_none, errW_some] <;> rfl) | (simp [*, errW_none, errW_some] <;> rfl), by (with_reducible repeat (first | apply Kd.R_alloc | apply Kd.R_drewN | apply Kd.R_drew)); exact HO157.out, by repeat (first | (with_reducible first | exact HB.out | apply la1 | apply ln1 | apply ld1) | exact HB.out)⟩
  · rw [if_neg c3] at H
    have c3b0 : decide (a0 < 8) = false := decide_eq_false c3
    clear c3
    by_cases c9 : a0 < 16
    · rw [if_pos c9] at H
      have c9b0 : decide (a0 < 16) = true := decide_eq_true c9
      clear c9
      obtain ⟨y158, hy158⟩ : ∃ y_ : List Int, y_ = (([wrap64 ((wrap64 (a1 + 52)) + a0)] : List Int)) := ⟨_, rfl⟩
      replace H : ((style_parts.f y158).bind fun t161 => (some t161)) = some r := by first | (rw [hy158]; with_reducible exact H) | (have H2_ := (Option.bind_some _ _).symm.trans H; rw [hy158]; with_reducible exact H2_) | (have H2_ := (Option.bind_some _ _).symm.trans H; with_reducible exact H2_) | with_reducible exact H | (rw [hy158]; exact H) | exact H
      have Ny158 := Aside0.mk hy158
      clear hy158
      replace H := Option.bind_eq_some_iff.mp H
      obtain ⟨t161, A100, H⟩ := H
      replace H : (some t161) = some r := H
      have A10 := Aside0.mk A100
      clear A100
      obtain rfl := Option.some.inj H
      go_enter Tryd.func58, Tryd.ntmps58
      go_wp2_with (first | ((with_reducible refine gate_dst (N := 21) rfl ?_); refine Kd.R_lit (Kd.int .i64) _ 3 ?hg (N := 21) ?hd (xs := ([wrap64 ((wrap64 (a1 + 52)) + a0)] : List Int)) (inner := [.int .i64 (wrap64 ((wrap64 (a1 + 52)) + a0))]) (ok := fun _ => True) (okp := fun _ => True) ?hr ?hp (fun _ hk => hk) trivial (Below.refl _ _) (Nat.le_refl _) (by simp) ?_; (case hd => rfl); (case hg => rfl); (case hr => first | (go_simp; done) | (go_simp; rfl)); (case hp => exact (Reps.one (show Kd.M (Kd.int .i64) _ _ _ (wrap64 ((wrap64 (a1 + 52)) + a0)) [.int .i64 (wrap64 ((wrap64 (a1 + 52)) + a0))] from rfl) (Reps.none _ _))); intro v159 w11 ho12 hb hg_ hnew_; clear hg_ hnew_; (first | rw [← Ny158.out] at ho12 | (simp only [Int.reduceToNat] at ho12; rw [← Ny158.out] at ho12)); have n0_ := Aside0.mk (Kd.R_lower ho12 (below_size (by repeat (first | (with_reducible first | exact HB.out | apply la1 | apply ln1 | apply ld1) | exact HB.out)))); have n1_ := Aside0.mk (below_step (by repeat (first | (with_reducible first | exact HB.out | apply la1 | apply ln1 | apply ld1) | exact HB.out)) hb); clear HB; have HO160 := n0_; have HB := n1_; clear n0_ n1_; clear hb ho12; obtain ⟨Ao13, co13, eo13⟩ := Kd.R_slice HO160.out; subst eo13) | ((with_reducible refine gate_callee (f := 57) rfl ?_); refine goesL_ (some 22) rfl rfl Tryd.func57 (by kernel_rfl) rfl #[.slice Ao13 y158.length co13] rfl (by (try simp only [List.map_toArray, List.map_cons, List.map_nil]); first | done | rfl | (simp only [List.length_drop, List.length_take]; rfl)) ?_; (with_reducible refine (style_parts.calls (fun k_ => some k_ = (.slice Ao13 y158.length co13 : Value).ownBlock) (.slice Ao13 y158.length co13) y158 t161 w _ ?side1 ?side2 A10.out).mono ?_); (case side1 => repeat (first | (with_reducible first | exact HB.out | apply la1 | apply ln1 | apply ld1) | exact HB.out)); (case side2 => exact Kd.R_tight rfl HO160.out); rintro e w14 ⟨v162, rfl, ho0, hb, hkp⟩; refine ⟨_, rfl, ?_⟩; have n0_ := Aside0.mk (Kd.R_mono (ok' := fun k_ => True) ho0 (fun k_ hk_ => trivial)); have n1_ := Aside0.mk (hb); clear HB; clear HO160; have HO163 := n0_; have HB := n1_; clear n0_ n1_; (try clear hb); (try clear hkp); (try clear ho0)))
      go_ret
      exact ⟨_, by first | rfl | (simp [errW_none, errW_some] <;> rfl) | (simp [*, errW_none, errW_some] <;> rfl), by (with_reducible repeat (first | apply Kd.R_alloc | apply Kd.R_drewN | apply Kd.R_drew)); exact HO163.out, by repeat (first | (with_reducible first | exact HB.out | apply la1 | apply ln1 | apply ld1) | exact HB.out)⟩
    · rw [if_neg c9] at H
      have c9b0 : decide (a0 < 16) = false := decide_eq_false c9
      clear c9
      by_cases c15 : a0 < 256
      · rw [if_pos c15] at H
        have c15b0 : decide (a0 < 256) = true := decide_eq_true c15
        clear c15
        obtain ⟨y164, hy164⟩ : ∃ y_ : List Int, y_ = (([wrap64 (a1 + 8), 5, a0] : List Int)) := ⟨_, rfl⟩
        replace H : ((style_parts.f y164).bind fun t167 => (some t167)) = some r := by first | (rw [hy164]; with_reducible exact H) | (have H2_ := (Option.bind_some _ _).symm.trans H; rw [hy164]; with_reducible exact H2_) | (have H2_ := (Option.bind_some _ _).symm.trans H; with_reducible exact H2_) | with_reducible exact H | (rw [hy164]; exact H) | exact H
        have Ny164 := Aside0.mk hy164
        clear hy164
        replace H := Option.bind_eq_some_iff.mp H
        obtain ⟨t167, A160, H⟩ := H
        replace H : (some t167) = some r := H
        have A16 := Aside0.mk A160
        clear A160
        obtain rfl := Option.some.inj H
        go_enter Tryd.func58, Tryd.ntmps58
        go_wp2_with (first | ((with_reducible refine gate_dst (N := 29) rfl ?_); refine Kd.R_lit (Kd.int .i64) _ 3 ?hg (N := 29) ?hd (xs := ([wrap64 (a1 + 8), 5, a0] : List Int)) (inner := [.int .i64 (wrap64 (a1 + 8)), .int .i64 5, .int .i64 a0]) (ok := fun _ => True) (okp := fun _ => True) ?hr ?hp (fun _ hk => hk) trivial (Below.refl _ _) (Nat.le_refl _) (by simp) ?_; (case hd => rfl); (case hg => rfl); (case hr => first | (go_simp; done) | (go_simp; rfl)); (case hp => exact (Reps.one (show Kd.M (Kd.int .i64) _ _ _ (wrap64 (a1 + 8)) [.int .i64 (wrap64 (a1 + 8))] from rfl) (Reps.one (show Kd.M (Kd.int .i64) _ _ _ 5 [.int .i64 5] from rfl) (Reps.one (show Kd.M (Kd.int .i64) _ _ _ a0 [.int .i64 a0] from rfl) (Reps.none _ _))))); intro v165 w17 ho18 hb hg_ hnew_; clear hg_ hnew_; (first | rw [← Ny164.out] at ho18 | (simp only [Int.reduceToNat] at ho18; rw [← Ny164.out] at ho18)); have n0_ := Aside0.mk (Kd.R_lower ho18 (below_size (by repeat (first | (with_reducible first | exact HB.out | apply la1 | apply ln1 | apply ld1) | exact HB.out)))); have n1_ := Aside0.mk (below_step (by repeat (first | (with_reducible first | exact HB.out | apply la1 | apply ln1 | apply ld1) | exact HB.out)) hb); clear HB; have HO166 := n0_; have HB := n1_; clear n0_ n1_; clear hb ho18; obtain ⟨Ao19, co19, eo19⟩ := Kd.R_slice HO166.out; subst eo19) | ((with_reducible refine gate_callee (f := 57) rfl ?_); refine goesL_ (some 30) rfl rfl Tryd.func57 (by kernel_rfl) rfl #[.slice Ao19 y164.length co19] rfl (by (try simp only [List.map_toArray, List.map_cons, List.map_nil]); first | done | rfl | (simp only [List.length_drop, List.length_take]; rfl)) ?_; (with_reducible refine (style_parts.calls (fun k_ => some k_ = (.slice Ao19 y164.length co19 : Value).ownBlock) (.slice Ao19 y164.length co19) y164 t167 w _ ?side1 ?side2 A16.out).mono ?_); (case side1 => repeat (first | (with_reducible first | exact HB.out | apply la1 | apply ln1 | apply ld1) | exact HB.out)); (case side2 => exact Kd.R_tight rfl HO166.out); rintro e w20 ⟨v168, rfl, ho0, hb, hkp⟩; refine ⟨_, rfl, ?_⟩; have n0_ := Aside0.mk (Kd.R_mono (ok' := fun k_ => True) ho0 (fun k_ hk_ => trivial)); have n1_ := Aside0.mk (hb); clear HB; clear HO166; have HO169 := n0_; have HB := n1_; clear n0_ n1_; (try clear hb); (try clear hkp); (try clear ho0)))
        go_ret
        exact ⟨_, by first | rfl | (simp [errW_none, errW_some] <;> rfl) | (simp [*, errW_none, errW_some] <;> rfl), by (with_reducible repeat (first | apply Kd.R_alloc | apply Kd.R_drewN | apply Kd.R_drew)); exact HO169.out, by repeat (first | (with_reducible first | exact HB.out | apply la1 | apply ln1 | apply ld1) | exact HB.out)⟩
      · rw [if_neg c15] at H
        have c15b0 : decide (a0 < 256) = false := decide_eq_false c15
        clear c15
        obtain ⟨y170, hy170⟩ : ∃ y_ : List Int, y_ = (([wrap64 (a1 + 8), 2, (-1), wrap64 (Int.tdiv (wrap64 (a0 - 256)) 65536), Int.tmod (wrap64 (Int.tdiv (wrap64 (a0 - 256)) 256)) 256, Int.tmod (wrap64 (a0 - 256)) 256] : List Int)) := ⟨_, rfl⟩
        replace H : ((style_parts.f y170).bind fun t173 => (some t173)) = some r := by first | (rw [hy170]; with_reducible exact H) | (have H2_ := (Option.bind_some _ _).symm.trans H; rw [hy170]; with_reducible exact H2_) | (have H2_ := (Option.bind_some _ _).symm.trans H; with_reducible exact H2_) | with_reducible exact H | (rw [hy170]; exact H) | exact H
        have Ny170 := Aside0.mk hy170
        clear hy170
        replace H := Option.bind_eq_some_iff.mp H
        obtain ⟨t173, A210, H⟩ := H
        replace H : (some t173) = some r := H
        have A21 := Aside0.mk A210
        clear A210
        obtain rfl := Option.some.inj H
        go_enter Tryd.func58, Tryd.ntmps58
        go_wp2_with (first | ((with_reducible refine gate_dst (N := 42) rfl ?_); refine Kd.R_lit (Kd.int .i64) _ 3 ?hg (N := 42) ?hd (xs := ([wrap64 (a1 + 8), 2, (-1), wrap64 (Int.tdiv (wrap64 (a0 - 256)) 65536), Int.tmod (wrap64 (Int.tdiv (wrap64 (a0 - 256)) 256)) 256, Int.tmod (wrap64 (a0 - 256)) 256] : List Int)) (inner := [.int .i64 (wrap64 (a1 + 8)), .int .i64 2, .int .i64 (-1), .int .i64 (wrap64 (Int.tdiv (wrap64 (a0 - 256)) 65536)), .int .i64 (Int.tmod (wrap64 (Int.tdiv (wrap64 (a0 - 256)) 256)) 256), .int .i64 (Int.tmod (wrap64 (a0 - 256)) 256)]) (ok := fun _ => True) (okp := fun _ => True) ?hr ?hp (fun _ hk => hk) trivial (Below.refl _ _) (Nat.le_refl _) (by simp) ?_; (case hd => rfl); (case hg => rfl); (case hr => first | (go_simp; done) | (go_simp; rfl)); (case hp => exact (Reps.one (show Kd.M (Kd.int .i64) _ _ _ (wrap64 (a1 + 8)) [.int .i64 (wrap64 (a1 + 8))] from rfl) (Reps.one (show Kd.M (Kd.int .i64) _ _ _ 2 [.int .i64 2] from rfl) (Reps.one (show Kd.M (Kd.int .i64) _ _ _ (-1) [.int .i64 (-1)] from rfl) (Reps.one (show Kd.M (Kd.int .i64) _ _ _ (wrap64 (Int.tdiv (wrap64 (a0 - 256)) 65536)) [.int .i64 (wrap64 (Int.tdiv (wrap64 (a0 - 256)) 65536))] from rfl) (Reps.one (show Kd.M (Kd.int .i64) _ _ _ (Int.tmod (wrap64 (Int.tdiv (wrap64 (a0 - 256)) 256)) 256) [.int .i64 (Int.tmod (wrap64 (Int.tdiv (wrap64 (a0 - 256)) 256)) 256)] from rfl) (Reps.one (show Kd.M (Kd.int .i64) _ _ _ (Int.tmod (wrap64 (a0 - 256)) 256) [.int .i64 (Int.tmod (wrap64 (a0 - 256)) 256)] from rfl) (Reps.none _ _)))))))); intro v171 w22 ho23 hb hg_ hnew_; clear hg_ hnew_; (first | rw [← Ny170.out] at ho23 | (simp only [Int.reduceToNat] at ho23; rw [← Ny170.out] at ho23)); have n0_ := Aside0.mk (Kd.R_lower ho23 (below_size (by repeat (first | (with_reducible first | exact HB.out | apply la1 | apply ln1 | apply ld1) | exact HB.out)))); have n1_ := Aside0.mk (below_step (by repeat (first | (with_reducible first | exact HB.out | apply la1 | apply ln1 | apply ld1) | exact HB.out)) hb); clear HB; have HO172 := n0_; have HB := n1_; clear n0_ n1_; clear hb ho23; obtain ⟨Ao24, co24, eo24⟩ := Kd.R_slice HO172.out; subst eo24) | ((with_reducible refine gate_callee (f := 57) rfl ?_); refine goesL_ (some 43) rfl rfl Tryd.func57 (by kernel_rfl) rfl #[.slice Ao24 y170.length co24] rfl (by (try simp only [List.map_toArray, List.map_cons, List.map_nil]); first | done | rfl | (simp only [List.length_drop, List.length_take]; rfl)) ?_; (with_reducible refine (style_parts.calls (fun k_ => some k_ = (.slice Ao24 y170.length co24 : Value).ownBlock) (.slice Ao24 y170.length co24) y170 t173 w _ ?side1 ?side2 A21.out).mono ?_); (case side1 => repeat (first | (with_reducible first | exact HB.out | apply la1 | apply ln1 | apply ld1) | exact HB.out)); (case side2 => exact Kd.R_tight rfl HO172.out); rintro e w25 ⟨v174, rfl, ho0, hb, hkp⟩; refine ⟨_, rfl, ?_⟩; have n0_ := Aside0.mk (Kd.R_mono (ok' := fun k_ => True) ho0 (fun k_ hk_ => trivial)); have n1_ := Aside0.mk (hb); clear HB; clear HO172; have HO175 := n0_; have HB := n1_; clear n0_ n1_; (try clear hb); (try clear hkp); (try clear ho0)))
        go_ret
        exact ⟨_, by first | rfl | (simp [errW_none, errW_some] <;> rfl) | (simp [*, errW_none, errW_some] <;> rfl), by (with_reducible repeat (first | apply Kd.R_alloc | apply Kd.R_drewN | apply Kd.R_drew)); exact HO175.out, by repeat (first | (with_reducible first | exact HB.out | apply la1 | apply ln1 | apply ld1) | exact HB.out)⟩
end Go.Proofs.YtopcleljecdkkaaDoor.G
end
section
namespace Go.Proofs.YtopcleljecdkkaaDoor.G
open Go.RowKit Go.Proofs.YtopcleljecdkkaaDoorW.PrintWords Go.Proofs.YtopcleljecdkkaaDoorW.PrintLast Go.Proofs.YtopcleljecdkkaaDoorW.PrintMore
attribute [local go_sem] max2_int min2_int max_two min_two max_three min_three max_four min_four
set_option linter.unusedVariables false
set_option linter.unusedSimpArgs false
def style_Params.f (a0_0 : Bool) (a0_1 : Bool) (a0_2 : Bool) (a0_3 : Bool) (a0_4 : Bool) (a0_5 : Bool) (a0_6 : Bool) (a0_7 : Int) (a0_8 : Int) (a0_9 : Int) : Option ((List (List Int))) := if style_May.f a0_0 a0_1 a0_2 a0_3 a0_4 a0_5 a0_6 a0_7 a0_8 a0_9 = some true then (if -9223372036854775808 ≤ a0_8 ∧ -9223372036854775808 ≤ a0_9 then some (paramsL a0_0 a0_1 a0_2 a0_3 a0_4 a0_5 a0_6 a0_7 a0_8 a0_9) else none) else if style_May.f a0_0 a0_1 a0_2 a0_3 a0_4 a0_5 a0_6 a0_7 a0_8 a0_9 = some false then some [] else none
theorem tint_is (n base : Int) (h0 : -2 ≤ n) (h1 : n < 16777472) (hb : 0 ≤ base) (hb1 : base ≤ 1000) : style_tint.f n base = some (tintL n base) := by
  have w1 : wrap64 (base + n) = base + n := by unfold wrap64; omega
  have w2 : wrap64 (base + 52) = base + 52 := by unfold wrap64; omega
  have w3 : wrap64 (base + 52 + n) = base + 52 + n := by unfold wrap64; omega
  have w4 : wrap64 (base + 8) = base + 8 := by unfold wrap64; omega
  unfold style_tint.f tintL style_parts.f
  by_cases g1 : n < 8
  · rw [if_pos g1, if_pos g1, w1]; rfl
  · rw [if_neg g1, if_neg g1]
    by_cases g2 : n < 16
    · rw [if_pos g2, if_pos g2, w2, w3]; rfl
    · rw [if_neg g2, if_neg g2]
      by_cases g3 : n < 256
      · rw [if_pos g3, if_pos g3, w4]; rfl
      · have w5 : wrap64 (n - 256) = n - 256 := by unfold wrap64; omega
        have t1 : Int.tdiv (n - 256) 65536 = (n - 256) / 65536 := Int.tdiv_eq_ediv_of_nonneg (by omega)
        have t2 : Int.tdiv (n - 256) 256 = (n - 256) / 256 := Int.tdiv_eq_ediv_of_nonneg (by omega)
        have w6 : wrap64 ((n - 256) / 65536) = (n - 256) / 65536 := by unfold wrap64; omega
        have w7 : wrap64 ((n - 256) / 256) = (n - 256) / 256 := by unfold wrap64; omega
        have t3 : Int.tmod ((n - 256) / 256) 256 = (n - 256) / 256 % 256 := Int.tmod_eq_emod_of_nonneg (by omega)
        have t4 : Int.tmod (n - 256) 256 = (n - 256) % 256 := Int.tmod_eq_emod_of_nonneg (by omega)
        rw [if_neg g3, if_neg g3, w4, w5, t1, t2, w6, w7, t3, t4]; rfl
theorem may_is (b0 b1 b2 b3 b4 b5 b6 : Bool) (u f b : Int) : style_May.f b0 b1 b2 b3 b4 b5 b6 u f b = some (mayL u f b) := by
  unfold style_May.f style_May_1.f mayL colL
  by_cases h0 : 0 ≤ u <;> by_cases h1 : u ≤ 5 <;> by_cases h2 : -1 ≤ f <;> by_cases h3 : f < 16777472 <;> by_cases h4 : -1 ≤ b <;> simp [h0, h1, h2, h3, h4, ge_iff_le]
set_option maxHeartbeats 1000000 in
theorem style_Params.calls (a0_0 : Bool) (a0_1 : Bool) (a0_2 : Bool) (a0_3 : Bool) (a0_4 : Bool) (a0_5 : Bool) (a0_6 : Bool) (a0_7 : Int) (a0_8 : Int) (a0_9 : Int) (r : List (List Int)) (w : World) (h : style_Params.f a0_0 a0_1 a0_2 a0_3 a0_4 a0_5 a0_6 a0_7 a0_8 a0_9 = some r) :
    Calls Tryd.prog 37 #[.agg #[.bool a0_0, .bool a0_1, .bool a0_2, .bool a0_3, .bool a0_4, .bool a0_5, .bool a0_6, .int .i64 a0_7, .int .i64 a0_8, .int .i64 a0_9]] w fun e w' => ∃ v0_ : Value, e = .returned (v0_) ∧ Kd.S (Kd.slice 3 (Kd.int .i64)) 52 w' w.heap.size (fun _ => True) v0_ r ∧ Below w.heap.size w w' := by
  unfold style_Params.f at h
  rw [may_is] at h
  have HM : ∀ r, mayL a0_7 a0_8 a0_9 = r → MayAt a0_0 a0_1 a0_2 a0_3 a0_4 a0_5 a0_6 a0_7 a0_8 a0_9 r := fun r hr W => by
    refine (style_May.calls a0_0 a0_1 a0_2 a0_3 a0_4 a0_5 a0_6 a0_7 a0_8 a0_9 r W (by rw [may_is, hr])).mono fun e w' h => ⟨h.1, ?_⟩
    first | exact h.2 | exact h.2.below
  cases hm : mayL a0_7 a0_8 a0_9 with
  | false =>
    rw [hm, if_neg (by decide), if_pos rfl] at h
    obtain rfl := Option.some.inj h
    exact params_not a0_0 a0_1 a0_2 a0_3 a0_4 a0_5 a0_6 a0_7 a0_8 a0_9 (HM false hm) w
  | true =>
    rw [hm, if_pos rfl] at h
    by_cases hlo : -9223372036854775808 ≤ a0_8 ∧ -9223372036854775808 ≤ a0_9
    · rw [if_pos hlo] at h
      obtain rfl := Option.some.inj h
      have hm' := hm
      simp only [mayL, colL, Bool.and_eq_true, decide_eq_true_eq] at hm'
      exact params_yes a0_0 a0_1 a0_2 a0_3 a0_4 a0_5 a0_6 a0_7 a0_8 a0_9 hm'.1 (HM true hm)
        (fun _ W => style_tint.calls a0_8 30 _ W (tint_is a0_8 30 (by omega) (by omega) (by decide) (by decide))) (fun _ W => style_tint.calls a0_9 40 _ W (tint_is a0_9 40 (by omega) (by omega) (by decide) (by decide))) w
    · rw [if_neg hlo] at h; cases h
end Go.Proofs.YtopcleljecdkkaaDoor.G
end
section
namespace Go.Proofs.YtopcleljecdkkaaDoor.G
open Go.RowKit Go.Proofs.YtopcleljecdkkaaDoorW.PrintWords Go.Proofs.YtopcleljecdkkaaDoorW.PrintLast Go.Proofs.YtopcleljecdkkaaDoorW.PrintMore
attribute [local go_sem] max2_int min2_int max_two min_two max_three min_three max_four min_four
set_option linter.unusedVariables false
set_option linter.unusedSimpArgs false
def wire_Num.l0 : Nat → List Int → Int → Int → Int → Int → List (List Int) → ByteArray → Int → ByteArray → Option (Int × Int × (List (List Int)) × ByteArray × Int × ByteArray)
  | 0, _, _, _, _, _, _, _, _, _ => none
  | k + 1, x13, x14, x15, x103000, x103001, x103002, x103003, x103004, x103005 => if x15 < x14 then (if 0 ≤ x15 then (if x15 < (x13.length : Int) then (if x103002.length < 5864062014805 then (wire_Num.l0 k x13 x14 (wrap64 (x15 + 1)) x103000 x103001 (x103002 ++ [(([rd x13 x15] : List Int))]) x103003 x103004 x103005) else (none)) else (none)) else (none)) else (some (x103000, x103001, x103002, x103003, x103004, x103005))
def wire_Num.f (k : Nat) (a0 : Int) (a1 : Int) (l2 : List Int) : Option (Int × Int × (List (List Int)) × ByteArray × Int × ByteArray) := wire_Num.l0 k l2 (l2.length : Int) 0 1 a0 ([] : List (List Int)) (⟨#[]⟩ : ByteArray) a1 (⟨#[]⟩ : ByteArray)
theorem wire_Num.mono_l : ∀ k, (∀ y0 y1 y2 y3 y4 y5 y6 y7 y8, LeO (wire_Num.l0 k y0 y1 y2 y3 y4 y5 y6 y7 y8) (wire_Num.l0 (k + 1) y0 y1 y2 y3 y4 y5 y6 y7 y8))
  | 0 => fun _ _ _ _ _ _ _ _ _ r h => by simp [wire_Num.l0] at h
  | k + 1 => by
    have ih0 := wire_Num.mono_l k
    · intro y0 y1 y2 y3 y4 y5 y6 y7 y8
      unfold wire_Num.l0
      repeat' first
      | (with_reducible exact ih0 _ _ _ _ _ _ _ _ _)
      | (with_reducible exact LeO.refl _)
      | (with_reducible exact LeO.none _)
      | (with_reducible refine LeO.ite ?_ ?_)
      | (with_reducible refine LeO.bind ?_ (fun _ => ?_))
      | exact ih0 _ _ _ _ _ _ _ _ _
      | exact LeO.none _
      | refine LeO.ite ?_ ?_
      | refine LeO.bind ?_ (fun _ => ?_)
theorem wire_Num.mono : ∀ a0 a1 a2 k, LeO (wire_Num.f k a0 a1 a2) (wire_Num.f (k + 1) a0 a1 a2) := by
  intro a0 a1 a2 k
  have ih0 := wire_Num.mono_l k
  unfold wire_Num.f
  repeat' first
      | (with_reducible exact ih0 _ _ _ _ _ _ _ _ _)
      | (with_reducible exact LeO.refl _)
      | (with_reducible exact LeO.none _)
      | (with_reducible refine LeO.ite ?_ ?_)
      | (with_reducible refine LeO.bind ?_ (fun _ => ?_))
      | exact ih0 _ _ _ _ _ _ _ _ _
      | exact LeO.none _
      | refine LeO.ite ?_ ?_
      | refine LeO.bind ?_ (fun _ => ?_)
set_option maxHeartbeats 8000000 in
set_option maxRecDepth 100000 in
theorem wire_Num.calls (k : Nat) (a0 : Int) (a1 : Int) (A2 : Option Addr) (c2 : Nat) (l2 : List Int) (r1 : Int) (r2 : Int) (r3 : List (List Int)) (r4 : ByteArray) (r5 : Int) (r6 : ByteArray) (w : World) (hr2 : Kd.C (Kd.int .i64) w A2 l2.length l2) (hc2 : l2.length ≤ c2) (h : wire_Num.f k a0 a1 l2 = some (r1, r2, r3, r4, r5, r6)) :
    Calls Tryd.prog 30 #[.int .u8 a0, .int .u8 a1, .slice A2 l2.length c2] w fun e w' => ∃ v2_ : Value, e = .returned (.agg #[.int .i64 r1, .int .u8 r2, v2_, .string r4, .int .u8 r5, .string r6]) ∧ Kd.S (Kd.slice 3 (Kd.int .i64)) 52 w' w.heap.size (fun _ => True) v2_ r3 ∧ Below w.heap.size w w' := by
  have hu30 := Tryd.underlying30
  have HR2 := Aside0.mk hr2
  have HC2 := Aside0.mk hc2
  clear hr2 hc2
  have HB := Aside0.mk (Below.refl w.heap.size w)
  have H : (wire_Num.l0 k l2 (l2.length : Int) 0 1 a0 ([] : List (List Int)) (⟨#[]⟩ : ByteArray) a1 (⟨#[]⟩ : ByteArray)) = some (r1, r2, r3, r4, r5, r6) := h
  clear h
  have H' := Aside0.mk H
  clear H
  go_enter Tryd.func30, Tryd.ntmps30
  go_wp2_with (first | ((with_reducible refine gate_dst (N := 6) rfl ?_); refine box_event ?hg (N := 6) ?hd (cs := #[.int .i64 0, .int .u8 0, .slice none 0 0, .string (⟨#[]⟩ : ByteArray), .int .u8 0, .string (⟨#[]⟩ : ByteArray)]) (t := 30) ?hr ?_; (case hd => rfl); (case hg => rfl); (case hr => first | (go_simp; done) | (go_simp; rfl)); intro gb101 hg w4 hbox hb; have n0_ := Aside0.mk (below_step (by repeat (first | (with_reducible first | exact HB.out | apply la1 | apply ln1 | apply ld1) | exact HB.out)) hb); have n1_ := Aside0.mk (hbox); have n2_ := Aside0.mk ((by rw [hg]; exact (below_size (by repeat (first | (with_reducible first | exact HB.out | apply la1 | apply ln1 | apply ld1) | exact HB.out))) : w.heap.size ≤ gb101)); have n3_ := Aside0.mk ((by rw [hg]; exact (below_size (by repeat (first | (with_reducible first | exact HB.out | apply la1 | apply ln1 | apply ld1) | exact HB.out))) : w.heap.size ≤ gb101)); clear HB; have HB := n0_; have BK101 := n1_; have GW101 := n2_; have GE101 := n3_; clear n0_ n1_ n2_ n3_; clear hb hbox hg) | ((with_reducible refine gate_dst (N := 7) rfl ?_); refine box_event ?hg (N := 7) ?hd (cs := #[.int .i64 0, .int .u8 0, .slice none 0 0, .string (⟨#[]⟩ : ByteArray), .int .u8 0, .string (⟨#[]⟩ : ByteArray)]) (t := 30) ?hr ?_; (case hd => rfl); (case hg => rfl); (case hr => first | (go_simp; done) | (go_simp; rfl)); intro gb102 hg w5 hbox hb; have n0_ := Aside0.mk (bb1 (g := gb101) (o := .cells #[.int .i64 0, .int .u8 0, .slice none 0 0, .string (⟨#[]⟩ : ByteArray), .int .u8 0, .string (⟨#[]⟩ : ByteArray)] 30 (0, 0)) (by (with_reducible repeat (first | refine bn1 ?_ _ | refine bd1 ?_ | refine ba1 ?_ _)); exact BK101.out) hb); have n1_ := Aside0.mk (below_step (by repeat (first | (with_reducible first | exact HB.out | apply la1 | apply ln1 | apply ld1 | refine ls1 ?_ GE101.out) | exact HB.out)) hb); have n2_ := Aside0.mk (hbox); have n3_ := Aside0.mk ((by rw [hg]; exact (below_size (by repeat (first | (with_reducible first | exact HB.out | apply la1 | apply ln1 | apply ld1 | refine ls1 ?_ GE101.out) | exact HB.out))) : w.heap.size ≤ gb102)); have n4_ := Aside0.mk ((by rw [hg]; exact (below_size (by repeat (first | (with_reducible first | exact HB.out | apply la1 | apply ln1 | apply ld1 | refine ls1 ?_ GE101.out) | exact HB.out))) : w.heap.size ≤ gb102)); have n5_ := Aside0.mk ((by rw [hg]; exact Nat.ne_of_lt (blk_lt (g := gb101) (o := .cells #[.int .i64 0, .int .u8 0, .slice none 0 0, .string (⟨#[]⟩ : ByteArray), .int .u8 0, .string (⟨#[]⟩ : ByteArray)] 30 (0, 0)) (by (with_reducible repeat (first | refine bn1 ?_ _ | refine bd1 ?_ | refine ba1 ?_ _)); exact BK101.out)) : gb101 ≠ gb102)); have n6_ := Aside0.mk ((by rw [hg]; exact Nat.ne_of_gt (blk_lt (g := gb101) (o := .cells #[.int .i64 0, .int .u8 0, .slice none 0 0, .string (⟨#[]⟩ : ByteArray), .int .u8 0, .string (⟨#[]⟩ : ByteArray)] 30 (0, 0)) (by (with_reducible repeat (first | refine bn1 ?_ _ | refine bd1 ?_ | refine ba1 ?_ _)); exact BK101.out)) : gb102 ≠ gb101)); clear BK101; clear HB; have BK101 := n0_; have HB := n1_; have BK102 := n2_; have GW102 := n3_; have GE102 := n4_; have NB101_102 := n5_; have NB102_101 := n6_; clear n0_ n1_ n2_ n3_ n4_ n5_ n6_; clear hb hbox hg; have hnb6 := NB102_101.out; have hnc6 := NB101_102.out; have hcz7_0 : w5.cell? ⟨gb102, 0, none⟩ = some (.int .i64 0) := (bc1 BK102.out 0).trans rfl; have hcz7_1 : w5.cell? ⟨gb102, 1, none⟩ = some (.int .u8 0) := (bc1 BK102.out 1).trans rfl; have hcz7_2 : w5.cell? ⟨gb102, 2, none⟩ = some (.slice none 0 0) := (bc1 BK102.out 2).trans rfl; have hcz7_3 : w5.cell? ⟨gb102, 3, none⟩ = some (.string (⟨#[]⟩ : ByteArray)) := (bc1 BK102.out 3).trans rfl; have hcz7_4 : w5.cell? ⟨gb102, 4, none⟩ = some (.int .u8 0) := (bc1 BK102.out 4).trans rfl; have hcz7_5 : w5.cell? ⟨gb102, 5, none⟩ = some (.string (⟨#[]⟩ : ByteArray)) := (bc1 BK102.out 5).trans rfl; have hfz7_0 := bz1 BK102.out 0; have hfz7_1 := bz1 BK102.out 1; have hfz7_2 := bz1 BK102.out 2; have hfz7_3 := bz1 BK102.out 3; have hfz7_4 := bz1 BK102.out 4; have hfz7_5 := bz1 BK102.out 5))
  go_loopg [15] k (fun kq v15 w' => ∃ (x15_1 : Int) (x103002_1 : List (List Int)) (u103002 : Value), v15 = .int .i64 x15_1 ∧ Aside0 (wire_Num.l0 kq l2 (l2.length : Int) x15_1 1 a0 x103002_1 (⟨#[]⟩ : ByteArray) a1 (⟨#[]⟩ : ByteArray) = some (r1, r2, r3, r4, r5, r6)) ∧ Aside0 (kq ≤ k) ∧ Aside0 (Kd.S (Kd.slice 3 (Kd.int .i64)) 52 w' w.heap.size (fun _ => True) u103002 x103002_1) ∧ Aside0 (w'.heap[gb101]? = some (.cells #[.int .i64 0, .int .u8 0, (.slice none 0 0), .string (⟨#[]⟩ : ByteArray), .int .u8 0, .string (⟨#[]⟩ : ByteArray)] 30 (0, 0))) ∧ Aside0 (w'.heap[gb102]? = some (.cells #[.int .i64 1, .int .u8 a0, u103002, .string (⟨#[]⟩ : ByteArray), .int .u8 a1, .string (⟨#[]⟩ : ByteArray)] 30 (0, 0))) ∧ Aside0 (Below w.heap.size w w'))
  case atStart => exact ⟨(0), (([] : List (List Int))), (.slice none 0 0), (by first | rfl | (simp; done) | (simp [*]; done)), H', ⟨Nat.le_refl _⟩, ⟨by first | exact Kd.S_nil _ _ _ _ _ | exact Kd.N_nil _ _ _ _ _ | exact Kd.V_nil _ _ _ _ _ | exact Kd.Q_nil _ _ _ _ _ | exact Kd.R_nil _ _ _ _ _⟩, ⟨by (with_reducible repeat (first | refine bn1 ?_ _ | refine bd1 ?_ | refine ba1 ?_ _)); refine bf1 ?_ NB101_102.out _; (with_reducible repeat (first | refine bn1 ?_ _ | refine bd1 ?_ | refine ba1 ?_ _)); refine bf1 ?_ NB101_102.out _; (with_reducible repeat (first | refine bn1 ?_ _ | refine bd1 ?_ | refine ba1 ?_ _)); refine bf1 ?_ NB101_102.out _; (with_reducible repeat (first | refine bn1 ?_ _ | refine bd1 ?_ | refine ba1 ?_ _)); refine bf1 ?_ NB101_102.out _; (with_reducible repeat (first | refine bn1 ?_ _ | refine bd1 ?_ | refine ba1 ?_ _)); refine bf1 ?_ NB101_102.out _; (with_reducible repeat (first | refine bn1 ?_ _ | refine bd1 ?_ | refine ba1 ?_ _)); refine bf1 ?_ NB101_102.out _; (with_reducible repeat (first | refine bn1 ?_ _ | refine bd1 ?_ | refine ba1 ?_ _)); exact BK101.out⟩, ⟨by (with_reducible repeat (first | refine bn1 ?_ _ | refine bd1 ?_ | refine ba1 ?_ _)); refine bp1 (cs := #[.int .i64 1, .int .u8 a0, .slice none 0 0, .string (⟨#[]⟩ : ByteArray), .int .u8 a1, .string (⟨#[]⟩ : ByteArray)]) ?_ 5 _ rfl; (with_reducible repeat (first | refine bn1 ?_ _ | refine bd1 ?_ | refine ba1 ?_ _)); refine bp1 (cs := #[.int .i64 1, .int .u8 a0, .slice none 0 0, .string (⟨#[]⟩ : ByteArray), .int .u8 0, .string (⟨#[]⟩ : ByteArray)]) ?_ 4 _ rfl; (with_reducible repeat (first | refine bn1 ?_ _ | refine bd1 ?_ | refine ba1 ?_ _)); refine bp1 (cs := #[.int .i64 1, .int .u8 a0, .slice none 0 0, .string (⟨#[]⟩ : ByteArray), .int .u8 0, .string (⟨#[]⟩ : ByteArray)]) ?_ 3 _ rfl; (with_reducible repeat (first | refine bn1 ?_ _ | refine bd1 ?_ | refine ba1 ?_ _)); refine bp1 (cs := #[.int .i64 1, .int .u8 a0, .slice none 0 0, .string (⟨#[]⟩ : ByteArray), .int .u8 0, .string (⟨#[]⟩ : ByteArray)]) ?_ 2 _ rfl; (with_reducible repeat (first | refine bn1 ?_ _ | refine bd1 ?_ | refine ba1 ?_ _)); refine bp1 (cs := #[.int .i64 1, .int .u8 0, .slice none 0 0, .string (⟨#[]⟩ : ByteArray), .int .u8 0, .string (⟨#[]⟩ : ByteArray)]) ?_ 1 _ rfl; (with_reducible repeat (first | refine bn1 ?_ _ | refine bd1 ?_ | refine ba1 ?_ _)); refine bp1 (cs := #[.int .i64 0, .int .u8 0, .slice none 0 0, .string (⟨#[]⟩ : ByteArray), .int .u8 0, .string (⟨#[]⟩ : ByteArray)]) ?_ 0 _ rfl; (with_reducible repeat (first | refine bn1 ?_ _ | refine bd1 ?_ | refine ba1 ?_ _)); exact BK102.out⟩, ⟨by repeat (first | (with_reducible first | exact HB.out | apply la1 | apply ln1 | apply ld1 | refine ls1 ?_ GE101.out | refine ls1 ?_ GE102.out) | exact HB.out)⟩⟩
  case round =>
    clear H'
    try clear c2
    try clear p2
    try clear c3
    try clear c6
    try clear hcz7_0
    try clear hcz7_1
    try clear hcz7_2
    try clear hcz7_3
    try clear hcz7_4
    try clear hcz7_5
    try clear hfz7_0
    try clear hfz7_1
    try clear hfz7_2
    try clear hfz7_3
    try clear hfz7_4
    try clear hfz7_5
    obtain ⟨x15_1, x103002_1, u103002, rfl, HA, HK1, HO_103002, BK101, BK102, HB⟩ := hrel
    cases gk with
    | zero => exact absurd HA.out (by simp [wire_Num.l0])
    | succ k1 =>
      have H := HA.out
      clear HA
      simp only [wire_Num.l0] at H
      by_cases c8 : x15_1 < (l2.length : Int)
      · rw [if_pos c8] at H
        have c8b0 : decide (x15_1 < (l2.length : Int)) = true := decide_eq_true c8
        clear c8
        by_cases c9 : 0 ≤ x15_1
        · rw [if_pos c9] at H
          have c9b0 : decide (0 ≤ x15_1) = true := decide_eq_true c9
          clear c9
          by_cases c10 : x15_1 < (l2.length : Int)
          · rw [if_pos c10] at H
            have c10b0 : decide (x15_1 < (l2.length : Int)) = true := decide_eq_true c10
            clear c10
            obtain ⟨y104, hy104⟩ : ∃ y_ : List Int, y_ = (([rd l2 x15_1] : List Int)) := ⟨_, rfl⟩
            replace H : (if x103002_1.length < 5864062014805 then (wire_Num.l0 k1 l2 (l2.length : Int) (wrap64 (x15_1 + 1)) 1 a0 (x103002_1 ++ [y104]) (⟨#[]⟩ : ByteArray) a1 (⟨#[]⟩ : ByteArray)) else (none)) = some (r1, r2, r3, r4, r5, r6) := by first | (rw [hy104]; with_reducible exact H) | (have H2_ := (Option.bind_some _ _).symm.trans H; rw [hy104]; with_reducible exact H2_) | (have H2_ := (Option.bind_some _ _).symm.trans H; with_reducible exact H2_) | with_reducible exact H | (rw [hy104]; exact H) | exact H
            have Ny104 := Aside0.mk hy104
            clear hy104
            by_cases c11 : x103002_1.length < 5864062014805
            · rw [if_pos c11] at H
              have LMc11 := Aside0.mk c11
              clear c11
              obtain ⟨y107, hy107⟩ : ∃ y_ : List (List Int), y_ = (x103002_1 ++ [y104]) := ⟨_, rfl⟩
              replace H : (wire_Num.l0 k1 l2 (l2.length : Int) (wrap64 (x15_1 + 1)) 1 a0 y107 (⟨#[]⟩ : ByteArray) a1 (⟨#[]⟩ : ByteArray)) = some (r1, r2, r3, r4, r5, r6) := by first | (rw [hy107]; with_reducible exact H) | (have H2_ := (Option.bind_some _ _).symm.trans H; rw [hy107]; with_reducible exact H2_) | (have H2_ := (Option.bind_some _ _).symm.trans H; with_reducible exact H2_) | with_reducible exact H | (rw [hy107]; exact H) | exact H
              have Ny107 := Aside0.mk hy107
              clear hy107
              have H' := Aside0.mk H
              clear H
              have p103 : 0 ≤ (x15_1 : Int) := of_decide_eq_true (by first | (with_reducible assumption) | assumption)
              have q103 : x15_1 < (l2.length : Int) := of_decide_eq_true (by first | (with_reducible assumption) | assumption)
              obtain ⟨ad103, e103, hx103_0⟩ := Kd.at_int HR2.out x15_1 p103 q103
              cases e103
              replace hx103_0 := (HB.out.cell (World.block_lt_of_cell? w _ hx103_0)).trans hx103_0
              replace p103 := eq_true p103
              replace q103 := eq_true q103
              have hnb12 := NB102_101.out
              have hnc12 := NB101_102.out
              have hcz13_0 : wr.cell? ⟨gb102, 0, none⟩ = some (.int .i64 1) := (bc1 BK102.out 0).trans rfl
              have hcz13_1 : wr.cell? ⟨gb102, 1, none⟩ = some (.int .u8 a0) := (bc1 BK102.out 1).trans rfl
              have hcz13_2 : wr.cell? ⟨gb102, 2, none⟩ = some (u103002) := (bc1 BK102.out 2).trans rfl
              have hcz13_3 : wr.cell? ⟨gb102, 3, none⟩ = some (.string (⟨#[]⟩ : ByteArray)) := (bc1 BK102.out 3).trans rfl
              have hcz13_4 : wr.cell? ⟨gb102, 4, none⟩ = some (.int .u8 a1) := (bc1 BK102.out 4).trans rfl
              have hcz13_5 : wr.cell? ⟨gb102, 5, none⟩ = some (.string (⟨#[]⟩ : ByteArray)) := (bc1 BK102.out 5).trans rfl
              have hfz13_0 := bz1 BK102.out 0
              have hfz13_1 := bz1 BK102.out 1
              have hfz13_2 := bz1 BK102.out 2
              have hfz13_3 := bz1 BK102.out 3
              have hfz13_4 := bz1 BK102.out 4
              have hfz13_5 := bz1 BK102.out 5
              go_wp2_with (first | ((with_reducible refine gate_dst (N := 22) rfl ?_); refine Kd.R_lit (Kd.int .i64) _ 3 ?hg (N := 22) ?hd (xs := ([rd l2 x15_1] : List Int)) (inner := [.int .i64 (rd l2 x15_1)]) (ok := fun _ => True) (okp := fun _ => True) ?hr ?hp (fun _ hk => hk) trivial (Below.refl _ _) (Nat.le_refl _) (by simp) ?_; (case hd => rfl); (case hg => rfl); (case hr => first | (go_simp; done) | (go_simp; rfl)); (case hp => exact (Reps.one (show Kd.M (Kd.int .i64) _ _ _ (rd l2 x15_1) [.int .i64 (rd l2 x15_1)] from rfl) (Reps.none _ _))); intro v105 w14 ho15 hb hg_ hnew_; clear hg_ hnew_; (first | rw [← Ny104.out] at ho15 | (simp only [Int.reduceToNat] at ho15; rw [← Ny104.out] at ho15)); have n0_ := Aside0.mk (Kd.S_elder' (by (with_reducible repeat (first | apply Kd.S_alloc | apply Kd.S_drewN | apply Kd.S_drew)); exact HO_103002.out) (Kd.R_base ho15) hb); have n1_ := Aside0.mk (Kd.R_lower ho15 (below_size (by repeat (first | (with_reducible first | exact HB.out | apply la1 | apply ln1 | apply ld1 | refine ls1 ?_ GE101.out | refine ls1 ?_ GE102.out) | exact HB.out)))); have n2_ := Aside0.mk (bb1 (g := gb101) (o := .cells #[.int .i64 0, .int .u8 0, .slice none 0 0, .string (⟨#[]⟩ : ByteArray), .int .u8 0, .string (⟨#[]⟩ : ByteArray)] 30 (0, 0)) (by (with_reducible repeat (first | refine bn1 ?_ _ | refine bd1 ?_ | refine ba1 ?_ _)); exact BK101.out) hb); have n3_ := Aside0.mk (bb1 (g := gb102) (o := .cells #[.int .i64 1, .int .u8 a0, u103002, .string (⟨#[]⟩ : ByteArray), .int .u8 a1, .string (⟨#[]⟩ : ByteArray)] 30 (0, 0)) (by (with_reducible repeat (first | refine bn1 ?_ _ | refine bd1 ?_ | refine ba1 ?_ _)); exact BK102.out) hb); have n4_ := Aside0.mk (below_step (by repeat (first | (with_reducible first | exact HB.out | apply la1 | apply ln1 | apply ld1 | refine ls1 ?_ GE101.out | refine ls1 ?_ GE102.out) | exact HB.out)) hb); clear HO_103002; clear BK101; clear BK102; clear HB; have HO_103002 := n0_; have HO106 := n1_; have BK101 := n2_; have BK102 := n3_; have HB := n4_; clear n0_ n1_ n2_ n3_ n4_; clear hb ho15; obtain ⟨Ao17, co17, eo17⟩ := Kd.R_slice HO106.out; subst eo17) | ((with_reducible refine gate_builtin (b := .append) (xs := #[.tmp 20, .tmp 23]) rfl ?_); at_builtin; refine Kd.S_append (Kd.slice 3 (Kd.int .i64)) (w0 := w) w.heap.size rfl (.tmp 20) (.tmp 23) 28 52 (.slice none 0 0) 24 rfl Tryd.underlying28 info52 rfl (by decide) (by omega) u103002 x103002_1 y104 [.slice Ao17 y104.length co17] (fun _ => True) (fun k_ => some k_ = (.slice Ao17 y104.length co17 : Value).ownBlock) rfl rfl ?aP (fun k_ hk_ => ((Kd.R_mono (ok' := fun k_ => ((fun _ => True)) k_ ∧ some k_ ≠ (u103002 : Value).ownBlock) (Kd.R_apart' (HO106.out) (Kd.S_typed HO_103002.out) (by decide)) (fun k_ hk => ⟨trivial, hk.2⟩))).1 k_ hk_.symm) ?aF ?aO ?aB ?aS ?aL ?_; (case aP => exact Kd.M_row (Kd.R_mono (Kd.R_tight rfl (Kd.R_mono (ok' := fun k_ => ((fun _ => True)) k_ ∧ some k_ ≠ (u103002 : Value).ownBlock) (Kd.R_apart' (HO106.out) (Kd.S_typed HO_103002.out) (by decide)) (fun k_ hk => ⟨trivial, hk.2⟩))) (fun _ h_ => h_))); (case aB => exact (by repeat (first | (with_reducible first | exact HB.out | apply la1 | apply ln1 | apply ld1 | refine ls1 ?_ GE101.out | refine ls1 ?_ GE102.out) | exact HB.out))); (case aF => exact (fun _ _ => trivial)); (case aO => exact (by (with_reducible repeat (first | apply Kd.S_alloc | apply Kd.S_drewN | apply Kd.S_drew)); exact Kd.S_mono HO_103002.out (fun k_ hk => ⟨trivial, fun e_ => hk.2 e_⟩))); (case aS => exact (below_size (by repeat (first | (with_reducible first | exact HB.out | apply la1 | apply ln1 | apply ld1 | refine ls1 ?_ GE101.out | refine ls1 ?_ GE102.out) | exact HB.out)))); (case aL => have := LMc11.out; omega); intro v108 w16 ho hb hg hat; rw [← Ny107.out] at ho; have n0_ := Aside0.mk (blk_grown (g := gb101) (o := .cells #[.int .i64 0, .int .u8 0, .slice none 0 0, .string (⟨#[]⟩ : ByteArray), .int .u8 0, .string (⟨#[]⟩ : ByteArray)] 30 (0, 0)) (by (with_reducible repeat (first | refine bn1 ?_ _ | refine bd1 ?_ | refine ba1 ?_ _)); exact BK101.out) hg (Kd.S_ne HO_103002.out BK101.out (by decide))); have n1_ := Aside0.mk (blk_grown (g := gb102) (o := .cells #[.int .i64 1, .int .u8 a0, u103002, .string (⟨#[]⟩ : ByteArray), .int .u8 a1, .string (⟨#[]⟩ : ByteArray)] 30 (0, 0)) (by (with_reducible repeat (first | refine bn1 ?_ _ | refine bd1 ?_ | refine ba1 ?_ _)); exact BK102.out) hg (Kd.S_ne HO_103002.out BK102.out (by decide))); have n2_ := Aside0.mk (hb); have n3_ := Aside0.mk (ho); clear BK101; clear BK102; clear HB; clear HO_103002; clear HO106; have BK101 := n0_; have BK102 := n1_; have HB := n2_; have HO109 := n3_; clear n0_ n1_ n2_ n3_; clear ho hb hg hat; obtain ⟨Ao18, co18, eo18⟩ := Kd.S_slice HO109.out; subst eo18; have hcz19_0 : w16.cell? ⟨gb102, 0, none⟩ = some (.int .i64 1) := (bc1 BK102.out 0).trans rfl; have hcz19_1 : w16.cell? ⟨gb102, 1, none⟩ = some (.int .u8 a0) := (bc1 BK102.out 1).trans rfl; have hcz19_2 : w16.cell? ⟨gb102, 2, none⟩ = some (u103002) := (bc1 BK102.out 2).trans rfl; have hcz19_3 : w16.cell? ⟨gb102, 3, none⟩ = some (.string (⟨#[]⟩ : ByteArray)) := (bc1 BK102.out 3).trans rfl; have hcz19_4 : w16.cell? ⟨gb102, 4, none⟩ = some (.int .u8 a1) := (bc1 BK102.out 4).trans rfl; have hcz19_5 : w16.cell? ⟨gb102, 5, none⟩ = some (.string (⟨#[]⟩ : ByteArray)) := (bc1 BK102.out 5).trans rfl; have hfz19_0 := bz1 BK102.out 0; have hfz19_1 := bz1 BK102.out 1; have hfz19_2 := bz1 BK102.out 2; have hfz19_3 := bz1 BK102.out 3; have hfz19_4 := bz1 BK102.out 4; have hfz19_5 := bz1 BK102.out 5))
              go_roundg k1
              case measure => have := HK1.out; omega
              case rel => exact ⟨(wrap64 (x15_1 + 1)), (y107), (.slice Ao18 y107.length co18), (by first | rfl | (simp; done) | (simp [*]; done)), H', ⟨by have := HK1.out; omega⟩, ⟨by (with_reducible repeat (first | apply Kd.S_alloc | apply Kd.S_drewN | apply Kd.S_drew)); exact Kd.S_mono (Kd.S_far (p := ⟨gb102, 2, none⟩) (Kd.S_types HO109.out BK102.out (by decide)) (fun _ hk => hk.2) (.slice Ao18 y107.length co18)) (fun _ hk => trivial)⟩, ⟨by (with_reducible repeat (first | refine bn1 ?_ _ | refine bd1 ?_ | refine ba1 ?_ _)); refine bf1 ?_ NB101_102.out _; (with_reducible repeat (first | refine bn1 ?_ _ | refine bd1 ?_ | refine ba1 ?_ _)); exact BK101.out⟩, ⟨by (with_reducible repeat (first | refine bn1 ?_ _ | refine bd1 ?_ | refine ba1 ?_ _)); refine bp1 (cs := #[.int .i64 1, .int .u8 a0, u103002, .string (⟨#[]⟩ : ByteArray), .int .u8 a1, .string (⟨#[]⟩ : ByteArray)]) ?_ 2 _ rfl; (with_reducible repeat (first | refine bn1 ?_ _ | refine bd1 ?_ | refine ba1 ?_ _)); exact BK102.out⟩, ⟨by repeat (first | (with_reducible first | exact HB.out | apply la1 | apply ln1 | apply ld1 | refine ls1 ?_ GE101.out | refine ls1 ?_ GE102.out) | exact HB.out)⟩⟩
            · rw [if_neg c11] at H
              exact absurd H (by simp)
          · rw [if_neg c10] at H
            exact absurd H (by simp)
        · rw [if_neg c9] at H
          exact absurd H (by simp)
      · rw [if_neg c8] at H
        have c8b0 : decide (x15_1 < (l2.length : Int)) = false := decide_eq_false c8
        clear c8
        simp only [Option.some.injEq, Prod.mk.injEq] at H
        obtain ⟨rfl, rfl, rfl, rfl, rfl, rfl⟩ := H
        have hnb20 := NB102_101.out
        have hnc20 := NB101_102.out
        have hcz21_0 : wr.cell? ⟨gb102, 0, none⟩ = some (.int .i64 1) := (bc1 BK102.out 0).trans rfl
        have hcz21_1 : wr.cell? ⟨gb102, 1, none⟩ = some (.int .u8 a0) := (bc1 BK102.out 1).trans rfl
        have hcz21_2 : wr.cell? ⟨gb102, 2, none⟩ = some (u103002) := (bc1 BK102.out 2).trans rfl
        have hcz21_3 : wr.cell? ⟨gb102, 3, none⟩ = some (.string (⟨#[]⟩ : ByteArray)) := (bc1 BK102.out 3).trans rfl
        have hcz21_4 : wr.cell? ⟨gb102, 4, none⟩ = some (.int .u8 a1) := (bc1 BK102.out 4).trans rfl
        have hcz21_5 : wr.cell? ⟨gb102, 5, none⟩ = some (.string (⟨#[]⟩ : ByteArray)) := (bc1 BK102.out 5).trans rfl
        have hfz21_0 := bz1 BK102.out 0
        have hfz21_1 := bz1 BK102.out 1
        have hfz21_2 := bz1 BK102.out 2
        have hfz21_3 := bz1 BK102.out 3
        have hfz21_4 := bz1 BK102.out 4
        have hfz21_5 := bz1 BK102.out 5
        have hcz22_0 : wr.cell? ⟨gb101, 0, none⟩ = some (.int .i64 0) := (bc1 BK101.out 0).trans rfl
        have hcz22_1 : wr.cell? ⟨gb101, 1, none⟩ = some (.int .u8 0) := (bc1 BK101.out 1).trans rfl
        have hcz22_2 : wr.cell? ⟨gb101, 2, none⟩ = some (.slice none 0 0) := (bc1 BK101.out 2).trans rfl
        have hcz22_3 : wr.cell? ⟨gb101, 3, none⟩ = some (.string (⟨#[]⟩ : ByteArray)) := (bc1 BK101.out 3).trans rfl
        have hcz22_4 : wr.cell? ⟨gb101, 4, none⟩ = some (.int .u8 0) := (bc1 BK101.out 4).trans rfl
        have hcz22_5 : wr.cell? ⟨gb101, 5, none⟩ = some (.string (⟨#[]⟩ : ByteArray)) := (bc1 BK101.out 5).trans rfl
        have hfz22_0 := bz1 BK101.out 0
        have hfz22_1 := bz1 BK101.out 1
        have hfz22_2 := bz1 BK101.out 2
        have hfz22_3 := bz1 BK101.out 3
        have hfz22_4 := bz1 BK101.out 4
        have hfz22_5 := bz1 BK101.out 5
        obtain ⟨Ao23, co23, eo23⟩ := Kd.S_slice HO_103002.out
        subst eo23
        go_wp2
        refine bodyPost_ret (results_cell_row rfl _ _ gb101 30 #[.int .i64 1, .int .u8 a0, .slice Ao23 x103002_1.length co23, .string (⟨#[]⟩ : ByteArray), .int .u8 a1, .string (⟨#[]⟩ : ByteArray)] (0, 0) _ rfl (by (with_reducible repeat (first | refine bn1 ?_ _ | refine bd1 ?_ | refine ba1 ?_ _)); refine bp1 (cs := #[.int .i64 1, .int .u8 a0, .slice Ao23 x103002_1.length co23, .string (⟨#[]⟩ : ByteArray), .int .u8 a1, .string (⟨#[]⟩ : ByteArray)]) ?_ 5 _ rfl; (with_reducible repeat (first | refine bn1 ?_ _ | refine bd1 ?_ | refine ba1 ?_ _)); refine bp1 (cs := #[.int .i64 1, .int .u8 a0, .slice Ao23 x103002_1.length co23, .string (⟨#[]⟩ : ByteArray), .int .u8 0, .string (⟨#[]⟩ : ByteArray)]) ?_ 4 _ rfl; (with_reducible repeat (first | refine bn1 ?_ _ | refine bd1 ?_ | refine ba1 ?_ _)); refine bp1 (cs := #[.int .i64 1, .int .u8 a0, .slice Ao23 x103002_1.length co23, .string (⟨#[]⟩ : ByteArray), .int .u8 0, .string (⟨#[]⟩ : ByteArray)]) ?_ 3 _ rfl; (with_reducible repeat (first | refine bn1 ?_ _ | refine bd1 ?_ | refine ba1 ?_ _)); refine bp1 (cs := #[.int .i64 1, .int .u8 a0, .slice none 0 0, .string (⟨#[]⟩ : ByteArray), .int .u8 0, .string (⟨#[]⟩ : ByteArray)]) ?_ 2 _ rfl; (with_reducible repeat (first | refine bn1 ?_ _ | refine bd1 ?_ | refine ba1 ?_ _)); refine bp1 (cs := #[.int .i64 1, .int .u8 0, .slice none 0 0, .string (⟨#[]⟩ : ByteArray), .int .u8 0, .string (⟨#[]⟩ : ByteArray)]) ?_ 1 _ rfl; (with_reducible repeat (first | refine bn1 ?_ _ | refine bd1 ?_ | refine ba1 ?_ _)); refine bp1 (cs := #[.int .i64 0, .int .u8 0, .slice none 0 0, .string (⟨#[]⟩ : ByteArray), .int .u8 0, .string (⟨#[]⟩ : ByteArray)]) ?_ 0 _ rfl; (with_reducible repeat (first | refine bn1 ?_ _ | refine bd1 ?_ | refine ba1 ?_ _)); exact BK101.out) Tryd.underlying30 rfl (by kernel_rfl)) rfl ?_
        exact ⟨_, by first | rfl | (simp [errW_none, errW_some] <;> rfl) | (simp [*, errW_none, errW_some] <;> rfl), by (with_reducible repeat (first | apply Kd.S_alloc | apply Kd.S_drewN | apply Kd.S_drew)); exact Kd.S_mono (Kd.S_far (p := ⟨gb101, 5, none⟩) (Kd.S_far (p := ⟨gb101, 4, none⟩) (Kd.S_far (p := ⟨gb101, 3, none⟩) (Kd.S_far (p := ⟨gb101, 2, none⟩) (Kd.S_far (p := ⟨gb101, 1, none⟩) (Kd.S_far (p := ⟨gb101, 0, none⟩) (Kd.S_types HO_103002.out BK101.out (by decide)) (fun _ hk => hk.2) (.int .i64 1)) (fun _ hk => hk.2) (.int .u8 a0)) (fun _ hk => hk.2) (.slice Ao23 x103002_1.length co23)) (fun _ hk => hk.2) (.string (⟨#[]⟩ : ByteArray))) (fun _ hk => hk.2) (.int .u8 a1)) (fun _ hk => hk.2) (.string (⟨#[]⟩ : ByteArray))) (fun _ hk => trivial), by repeat (first | (with_reducible first | exact HB.out | apply la1 | apply ln1 | apply ld1 | refine ls1 ?_ GE101.out | refine ls1 ?_ GE102.out) | exact HB.out)⟩
end Go.Proofs.YtopcleljecdkkaaDoor.G
end
