/- The call's own blocks, kept in one hypothesis; the laws by which a walk makes, reads and writes them. No condition. -/
import Derived.Test.YtllloedhlcdbjaaKitB
import Derived.Laws.Rows
import Derived.Laws.CopyRow
import Derived.Below
import Derived.WalkKit
namespace Go.Proofs.Ytllloedhlcdbjaa.Kit
set_option linter.unusedVariables false
set_option linter.unusedSimpArgs false
open Go Go.RowKit

abbrev Res := List (Nat × (Obj → Prop))
/-- 'W0' is the world in which the call began; each of 'bs' is a block of the call's own, of which this is known. -/
structure Mine (W0 w : World) (bs : Res) : Prop where
  below : Below W0.heap.size W0 w
  nodup : (bs.map (·.1)).Nodup
  held : ∀ p ∈ bs, W0.heap.size ≤ p.1 ∧ ∃ o, w.heap[p.1]? = some o ∧ p.2 o

def IsCells (cs : List Value) (T : TypeId) (o : Obj) : Prop := o = .cells cs.toArray T (0, 0)

theorem Mine.start (w : World) : Mine w w [] := ⟨Below.refl _ _, List.nodup_nil, by simp⟩

theorem size_alloc (w : World) (o : Obj) : (w.alloc o).heap.size = w.heap.size + 1 := by
  show (w.heap.push o).size = _
  simp
theorem Mine.lt {W0 w : World} {bs : Res} (h : Mine W0 w bs) {p : Nat × (Obj → Prop)} (hp : p ∈ bs) : p.1 < w.heap.size := by
  obtain ⟨_, o, ho, _⟩ := h.held p hp
  exact (Array.getElem?_eq_some_iff.1 ho).1
theorem Mine.new {W0 w : World} {bs : Res} (h : Mine W0 w bs) (o : Obj) (p : Obj → Prop) (hp : p o) : Mine W0 (w.alloc o) (bs ++ [(w.heap.size, p)]) := by
  refine ⟨h.below.alloc h.below.size _, ?_, ?_⟩
  · rw [List.map_append, List.nodup_append]
    refine ⟨h.nodup, by simp, ?_⟩
    intro x hx y hy e
    obtain ⟨q, hq, rfl⟩ := List.mem_map.1 hx
    have := h.lt hq
    simp at hy
    omega
  · intro q hq
    rcases List.mem_append.1 hq with hq | hq
    · obtain ⟨h1, o', h2, h3⟩ := h.held q hq
      exact ⟨h1, o', (Below.heap_alloc w o q.1 (h.lt hq)).trans h2, h3⟩
    · simp at hq
      subst hq
      exact ⟨h.below.size, o, heap_alloc_new w o, hp⟩
theorem Mine.call {W0 w w' : World} {bs : Res} (h : Mine W0 w bs) (hb : Below w.heap.size w w') : Mine W0 w' bs :=
  ⟨h.below.trans (hb.mono h.below.size), h.nodup, fun p hp => by
    obtain ⟨h1, o, h2, h3⟩ := h.held p hp
    exact ⟨h1, o, (hb.block _ (h.lt hp)).trans h2, h3⟩⟩
theorem Mine.drew {W0 w : World} {bs : Res} (h : Mine W0 w bs) : Mine W0 w.drew bs := ⟨h.below.drew, h.nodup, h.held⟩
theorem Mine.less {W0 w : World} {bs cs : Res} (h : Mine W0 w bs) (hs : cs.Sublist bs) : Mine W0 w cs :=
  ⟨h.below, (hs.map _).nodup h.nodup, fun p hp => h.held p (hs.subset hp)⟩

/-- one entry's fact turns -/
inductive Upd : Res → Nat → (Obj → Prop) → (Obj → Prop) → Res → Prop
  | here {bs : Res} {g : Nat} {p p' : Obj → Prop} : Upd ((g, p) :: bs) g p p' ((g, p') :: bs)
  | there {bs bs' : Res} {x : Nat × (Obj → Prop)} {g : Nat} {p p' : Obj → Prop} (h : Upd bs g p p' bs') : Upd (x :: bs) g p p' (x :: bs')
theorem Upd.mem {bs bs' : Res} {g : Nat} {p p' : Obj → Prop} (h : Upd bs g p p' bs') : (g, p) ∈ bs := by
  induction h with
  | here => exact .head _
  | there _ ih => exact .tail _ ih
theorem Upd.keys {bs bs' : Res} {g : Nat} {p p' : Obj → Prop} (h : Upd bs g p p' bs') : bs'.map (·.1) = bs.map (·.1) := by
  induction h with
  | here => rfl
  | there _ ih => simp [ih]
theorem Upd.cases {bs bs' : Res} {g : Nat} {p p' : Obj → Prop} (h : Upd bs g p p' bs') : (bs.map (·.1)).Nodup → ∀ q ∈ bs', q = (g, p') ∨ (q ∈ bs ∧ q.1 ≠ g) := by
  induction h with
  | here =>
    intro hn q hq
    rw [List.map_cons, List.nodup_cons] at hn
    rcases List.mem_cons.1 hq with rfl | hq
    · exact .inl rfl
    · exact .inr ⟨.tail _ hq, fun e => hn.1 (List.mem_map.2 ⟨q, hq, e⟩)⟩
  | @there bs bs' x g p p' hu ih =>
    intro hn q hq
    rw [List.map_cons, List.nodup_cons] at hn
    rcases List.mem_cons.1 hq with rfl | hq
    · exact .inr ⟨.head _, fun e => hn.1 (List.mem_map.2 ⟨_, hu.mem, e.symm⟩)⟩
    · rcases ih hn.2 q hq with h | ⟨h, h2⟩
      · exact .inl h
      · exact .inr ⟨.tail _ h, h2⟩
theorem Mine.turn {W0 w w' : World} {bs bs' : Res} {g : Nat} {p p' : Obj → Prop} (h : Mine W0 w bs) (hu : Upd bs g p p' bs') (hos : w'.os = w.os) (htape : w'.tape = w.tape) (hout : w'.output = w.output)
    (hsz : w'.heap.size = w.heap.size) (hoth : ∀ i, i ≠ g → w'.heap[i]? = w.heap[i]?) (hg : ∃ o, w'.heap[g]? = some o ∧ p' o) : Mine W0 w' bs' := by
  have hge := (h.held _ hu.mem).1
  refine ⟨⟨hos.trans h.below.os, htape.trans h.below.tape, hout.trans h.below.output, by rw [hsz]; exact h.below.size, fun k hk => ?_⟩, by rw [hu.keys]; exact h.nodup, fun q hq => ?_⟩
  · rw [hoth k (by simp at hge; omega)]; exact h.below.block k hk
  · rcases hu.cases h.nodup q hq with rfl | ⟨hq, hne⟩
    · exact ⟨hge, hg⟩
    · obtain ⟨h1, o, h2, h3⟩ := h.held q hq
      exact ⟨h1, o, (hoth _ hne).trans h2, h3⟩
theorem Mine.setRow {W0 w : World} {bs bs' : Res} {g : Nat} {cs cs' : List Value} {T : TypeId} (h : Mine W0 w bs) (hu : Upd bs g (IsCells cs T) (IsCells cs' T) bs') : Mine W0 (w.setRow g cs'.toArray) bs' := by
  obtain ⟨_, o, ho, hp⟩ := h.held _ hu.mem
  rw [show o = _ from hp] at ho
  exact h.turn hu rfl rfl rfl (size_setRow _ _ _) (fun i hi => setRow_other w g i _ hi) ⟨_, setRow_heap w g _ _ T _ ho, rfl⟩
theorem Mine.at {W0 w : World} {bs : Res} {g : Nat} {cs : List Value} {T : TypeId} (h : Mine W0 w bs) (hm : (g, IsCells cs T) ∈ bs) : w.heap[g]? = some (.cells cs.toArray T (0, 0)) := by
  obtain ⟨_, o, ho, hp⟩ := h.held _ hm
  rw [show o = _ from hp] at ho
  exact ho

/-- a piece of a list -/
inductive Slc {α : Type} : List α → Nat → Nat → List α → Prop
  | nil {l : List α} : Slc l 0 0 []
  | take {x : α} {l vs : List α} {n : Nat} (h : Slc l 0 n vs) : Slc (x :: l) 0 (n + 1) (x :: vs)
  | skip {x : α} {l vs : List α} {o n : Nat} (h : Slc l o n vs) : Slc (x :: l) (o + 1) n vs
theorem Slc.spec {α : Type} {l vs : List α} {o n : Nat} (h : Slc l o n vs) : vs.length = n ∧ ∀ j v, vs[j]? = some v → l[o + j]? = some v := by
  induction h with
  | nil => simp
  | take _ ih =>
    refine ⟨by simp [ih.1], fun j v hj => ?_⟩
    cases j with
    | zero => simpa using hj
    | succ j => have := ih.2 j v (by simpa using hj); simpa [Nat.zero_add] using this
  | skip _ ih =>
    refine ⟨ih.1, fun j v hj => ?_⟩
    have := ih.2 j v hj
    rw [show ∀ a b : Nat, a + 1 + b = (a + b) + 1 from fun a b => by omega]
    simpa using this
/-- a piece of a list is put in another one's place -/
inductive PutAt {α : Type} : List α → Nat → List α → List α → Prop
  | nil {l : List α} : PutAt l 0 [] l
  | put {x v : α} {l vs l' : List α} (h : PutAt l 0 vs l') : PutAt (x :: l) 0 (v :: vs) (v :: l')
  | skip {x : α} {l vs l' : List α} {o : Nat} (h : PutAt l o vs l') : PutAt (x :: l) (o + 1) vs (x :: l')
theorem PutAt.spec {α : Type} {l vs l' : List α} {o : Nat} (h : PutAt l o vs l') : o + vs.length ≤ l.length ∧ l' = l.take o ++ vs ++ l.drop (o + vs.length) := by
  induction h with
  | nil => simp
  | put _ ih => obtain ⟨h1, h2⟩ := ih; refine ⟨by simp at h1 ⊢; omega, ?_⟩; rw [h2]; simp
  | skip _ ih =>
    obtain ⟨h1, h2⟩ := ih
    refine ⟨by simp; omega, ?_⟩
    rw [h2]
    rw [show ∀ a b : Nat, a + 1 + b = (a + b) + 1 from fun a b => by omega]
    simp

variable {P : Program} {ops : Array Oper} {Q : Exit → Act → World → Prop} {a : Act} {w W0 : World} {rest : List Oper} {o : Oper} {bs bs' : Res} {g off n : Nat} {cs cs' vs : List Value} {T E : TypeId} {v : Value}

/-- what an operand is, written out -/
inductive EvalTo (a : Act) : Operand → Value → Prop
  | const {v : Value} : EvalTo a (.const v) v
  | tmp {t : Tmp} {v : Value} (h : a.tmps.toList[t]? = some v) : EvalTo a (.tmp t) v
  | func {f : FuncId} : EvalTo a (.func f) (.func (.func f) #[] #[])
  | global {g : Nat} : EvalTo a (.global g) (.pointer (some ⟨g, 0, none⟩))
theorem EvalTo.eq {a : Act} {x : Operand} {v : Value} (h : EvalTo a x v) : a.eval x = v := by
  cases h with
  | const => rfl
  | tmp h => rw [Array.getElem?_toList] at h; simp [Act.eval, h]
  | func => rfl
  | global => rfl

theorem run_load_own (hg : w.heap[g]? = some (.cells cs.toArray E (0, 0))) (hagg : ∀ w, (isAgg T).run P w = .ok true w) (hsz : ∀ w, (sizeOf T).run P w = .ok n w) (hs : Slc cs off n vs) :
    (loadVar T ⟨g, off, none⟩).run P w = .ok (.agg vs.toArray) w := by
  have hl : (loadCells ⟨g, off, none⟩ vs.length).run P w = .ok vs.toArray w := run_loadCells_list (P := P) (w := w) _ vs fun j u hj => by
    have hadd : (⟨g, off, none⟩ : Addr).add j = ⟨g, off + j, none⟩ := by unfold Addr.add; split <;> simp_all
    rw [hadd]
    simp [World.cell?, hg, hs.spec.2 j u hj]
  rw [hs.spec.1] at hl
  simp [loadVar, Sem.run_bind, hagg, hsz, hl]
theorem run_load1_own (hg : w.heap[g]? = some (.cells cs.toArray E (0, 0))) (hagg : ∀ w, (isAgg T).run P w = .ok false w) (hv : cs[off]? = some v) :
    (loadVar T ⟨g, off, none⟩).run P w = .ok v w := by
  have hc : w.cell? ⟨g, off, none⟩ = some v := by simp [World.cell?, hg, hv]
  simp [loadVar, Sem.run_bind, hagg, load, Sem.run, hc]
theorem run_store_own (hg : w.heap[g]? = some (.cells cs.toArray E (0, 0))) (hv : v.cells = vs.toArray) (hsz : ∀ w, (sizeOf T).run P w = .ok vs.length w) (hp : PutAt cs off vs cs') (h1 : vs.all (·.oneCell') = true) :
    (storeVar T ⟨g, off, none⟩ v).run P w = .ok () (w.setRow g cs'.toArray) := by
  have h := run_storeCells_at (P := P) g off E vs 0 cs.toArray w hg (by simpa using hp.spec.1) (fun x hx => List.all_eq_true.1 h1 x hx)
  simp only [Nat.add_zero, List.toList_toArray] at h
  rw [← hp.spec.2] at h
  simp [storeVar, Sem.run_bind, hsz, hv, h]

/-- The goal stands at an operation. -/
theorem gate (h : wpList P ops Q (o :: rest) a w) : wpList P ops Q (o :: rest) a w := h
theorem wpList_want (hw : Region.wanted o (yielded ops a.tmps) = true) (h : ∀ K : Act → World → Prop, (∀ a w, wpList P ops Q rest a w → K a w) → o.wp P a w K Q) : wpList P ops Q (o :: rest) a w :=
  wpList_step fun K hK => by rw [if_pos hw]; exact h K hK
theorem own_load (HO : Mine W0 w bs) {x : Operand} (ho : o.op = .load T x) (hgd : Region.wanted o (yielded ops a.tmps) = true) (hx : a.eval x = .pointer (some ⟨g, off, none⟩)) (hm : (g, IsCells cs E) ∈ bs)
    (hagg : ∀ w, (isAgg T).run P w = .ok true w) (hsz : ∀ w, (sizeOf T).run P w = .ok n w) (hs : Slc cs off n vs) (h : wpList P ops Q rest (a.put o.dst (.agg vs.toArray)) w) : wpList P ops Q (o :: rest) a w :=
  wpList_want hgd fun _ hK => by
    unfold Oper.wp execOp
    simp only [ho, hx, Instr.loadAt, Instr.sureAddr, Sem.run_bind, Sem.run_pure, Result.andThen_ok, run_load_own (HO.at hm) hagg hsz hs]
    exact hK _ _ h
theorem own_load1 (HO : Mine W0 w bs) {x : Operand} (ho : o.op = .load T x) (hgd : Region.wanted o (yielded ops a.tmps) = true) (hx : a.eval x = .pointer (some ⟨g, off, none⟩)) (hm : (g, IsCells cs E) ∈ bs)
    (hagg : ∀ w, (isAgg T).run P w = .ok false w) (hv : cs[off]? = some v) (h : wpList P ops Q rest (a.put o.dst v) w) : wpList P ops Q (o :: rest) a w :=
  wpList_want hgd fun _ hK => by
    unfold Oper.wp execOp
    simp only [ho, hx, Instr.loadAt, Instr.sureAddr, Sem.run_bind, Sem.run_pure, Result.andThen_ok, run_load1_own (HO.at hm) hagg hv]
    exact hK _ _ h
theorem own_store (HO : Mine W0 w bs) {x y : Operand} (ho : o.op = .store T x y) (hgd : Region.wanted o (yielded ops a.tmps) = true) (hx : a.eval x = .pointer (some ⟨g, off, none⟩)) (hv : (a.eval y).cells = vs.toArray)
    (hu : Upd bs g (IsCells cs E) (IsCells cs' E) bs') (hsz : ∀ w, (sizeOf T).run P w = .ok vs.length w) (hp : PutAt cs off vs cs') (h1 : vs.all (·.oneCell') = true)
    (h : ∀ w', Mine W0 w' bs' → wpList P ops Q rest (a.put o.dst undef) w') : wpList P ops Q (o :: rest) a w :=
  wpList_want hgd fun _ hK => by
    unfold Oper.wp execOp
    simp only [ho, hx, Instr.storeAt, Instr.sureAddr, Sem.run_bind, Sem.run_pure, Result.andThen_ok, run_store_own (HO.at hu.mem) hv hsz hp h1]
    exact hK _ _ (h _ (HO.setRow hu))
theorem run_newVar_own (hv : v.cells = cs.toArray) : (newVar T v).run P w = .ok ⟨w.heap.size, 0, none⟩ (w.alloc (.cells cs.toArray T)) := by
  simp only [newVar, newRow, hv]
  rfl
theorem own_box (HO : Mine W0 w bs) {x : Operand} (ho : o.op = .box T x) (hgd : Region.wanted o (yielded ops a.tmps) = true) (hv : (a.eval x).cells = cs.toArray)
    (h : ∀ g w', W0.heap.size ≤ g → Mine W0 w' (bs ++ [(g, IsCells cs T)]) → wpList P ops Q rest (a.put o.dst (.pointer (some ⟨g, 0, none⟩))) w') : wpList P ops Q (o :: rest) a w :=
  wpList_want hgd fun _ hK => by
    unfold Oper.wp execOp
    simp only [ho]
    have hr : (Instr.box T (a.eval x)).run P w = .ok (.pointer (some ⟨w.heap.size, 0, none⟩)) (w.alloc (.cells cs.toArray T)) := by
      simp [Instr.box, Sem.run_bind, run_newVar_own hv]
    rw [Sem.run_bind, hr]
    exact hK _ _ (h _ _ HO.below.size (HO.new _ _ rfl))
theorem own_alloc (HO : Mine W0 w bs) (ho : o.op = .alloc T) (hgd : Region.wanted o (yielded ops a.tmps) = true) (hz : ∀ w, (zeroValue T).run P w = .ok v w) (hv : v.cells = cs.toArray)
    (h : ∀ g w', W0.heap.size ≤ g → Mine W0 w' (bs ++ [(g, IsCells cs T)]) → wpList P ops Q rest (a.put o.dst (.pointer (some ⟨g, 0, none⟩))) w') : wpList P ops Q (o :: rest) a w :=
  wpList_want hgd fun _ hK => by
    unfold Oper.wp execOp
    simp only [ho]
    have hr : (Instr.alloc T true (.tuple #[])).run P w = .ok (.pointer (some ⟨w.heap.size, 0, none⟩)) (w.alloc (.cells cs.toArray T)) := by
      simp [Instr.alloc, Sem.run_bind, hz, run_newVar_own hv]
    rw [Sem.run_bind, hr]
    exact hK _ _ (h _ _ HO.below.size (HO.new _ _ rfl))

theorem own_results1 {fn : Func} {tmps : Array Value} {p : Tmp} (HO : Mine W0 w bs) (h : fn.results = #[.cell p T]) (hp : tmps.getD p undef = .pointer (some ⟨g, 0, none⟩)) (hm : (g, IsCells cs E) ∈ bs)
    (hagg : ∀ w, (isAgg T).run P w = .ok true w) (hsz : ∀ w, (sizeOf T).run P w = .ok n w) (hs : Slc cs 0 n vs) : (results fn tmps).run P w = .ok (.agg vs.toArray) w := by
  have hp' : tmps[p]?.getD undef = .pointer (some ⟨g, 0, none⟩) := by simpa using hp
  simp [results, h, hp', asAddr, run_load_own (HO.at hm) hagg hsz hs]
theorem own_results2 {fn : Func} {tmps : Array Value} {p q : Tmp} (HO : Mine W0 w bs) (h : fn.results = #[.cell p T, .tmp q]) (hp : tmps.getD p undef = .pointer (some ⟨g, 0, none⟩)) (hm : (g, IsCells cs E) ∈ bs)
    (hagg : ∀ w, (isAgg T).run P w = .ok true w) (hsz : ∀ w, (sizeOf T).run P w = .ok n w) (hs : Slc cs 0 n vs) : (results fn tmps).run P w = .ok (.tuple #[.agg vs.toArray, tmps.getD q undef]) w := by
  have hp' : tmps[p]?.getD undef = .pointer (some ⟨g, 0, none⟩) := by simpa using hp
  simp [results, h, hp', asAddr, run_load_own (HO.at hm) hagg hsz hs]

end Go.Proofs.Ytllloedhlcdbjaa.Kit
