/- The walk with blocks of its own, beside something else that is known of the world and stays (HX : X w). No condition. -/
import Derived.Test.YtllloedhlcdbjaaKitM
import Derived.Test.YtllloedhlcdbjaaWApart
namespace Go.Proofs.Ytllloedhlcdbjaa.Kit
set_option linter.unusedVariables false
set_option linter.unusedSimpArgs false
open Go Go.RowKit Go.Proofs.YtllloedhlcdbjaaW.PrintWords
section
variable {P : Program} {ops : Array Oper} {Q : Exit → Act → World → Prop} {a : Act} {w W0 : World} {rest : List Oper} {o : Oper} {bs bs' : Res} {g off n : Nat} {cs cs' vs : List Value} {T E : TypeId} {v : Value} {X : World → Prop}
/-- X stays, whatever is made -/
def XB (X : World → Prop) : Prop := ∀ w w', X w → Below w.heap.size w w' → X w'
/-- X stays, whatever is stored into a variable of type E -/
def XS (E : TypeId) (X : World → Prop) : Prop := ∀ w g cs cs', X w → w.heap[g]? = some (.cells cs E (0, 0)) → X (w.setRow g cs')
theorem XB.and {X Y : World → Prop} (h : XB X) (k : XB Y) : XB (fun w => X w ∧ Y w) := fun w w' hx hb => ⟨h w w' hx.1 hb, k w w' hx.2 hb⟩
theorem XS.and {X Y : World → Prop} {E : TypeId} (h : XS E X) (k : XS E Y) : XS E (fun w => X w ∧ Y w) := fun w g cs cs' hx hb => ⟨h w g cs cs' hx.1 hb, k w g cs cs' hx.2 hb⟩
theorem XB.rows {α : Type} (d : Kd α) (e base : Nat) (ok : Nat → Prop) (v : Value) (xs : List α) : XB (fun w => Kd.S d e w base ok v xs) := fun w w' h hb => Kd.S_below h hb
theorem XS.rows {α : Type} (d : Kd α) (e base : Nat) (ok : Nat → Prop) (v : Value) (xs : List α) {T : TypeId} (ht : ∀ q, q ∈ e :: d.E → q ≠ T) : XS T (fun w => Kd.S d e w base ok v xs) := fun w g cs cs' h hg => by
  refine Kd.S_mono (Kd.S_step (Kd.S_bound h) (fun k hk hlt => ?_)) (fun k hk => hk.1)
  obtain ⟨_, _, _, q, hq, cells, hc⟩ := hk
  refine setRow_other w g k _ (fun e => ?_)
  subst e
  rw [hc] at hg
  cases hg
  exact absurd rfl (ht _ hq)
theorem own_storeX (HO : Mine W0 w bs) (HX : X w) {x y : Operand} (ho : o.op = .store T x y) (hgd : Region.wanted o (yielded ops a.tmps) = true) (hx : a.eval x = .pointer (some ⟨g, off, none⟩)) (hv : (a.eval y).cells = vs.toArray)
    (hu : Upd bs g (IsCells cs E) (IsCells cs' E) bs') (hk : XS E X) (hsz : ∀ w, (sizeOf T).run P w = .ok vs.length w) (hp : PutAt cs off vs cs') (h1 : vs.all (·.oneCell') = true)
    (h : ∀ w', Mine W0 w' bs' → X w' → wpList P ops Q rest (a.put o.dst undef) w') : wpList P ops Q (o :: rest) a w :=
  wpList_want hgd fun _ hK => by
    unfold Oper.wp execOp
    simp only [ho, hx, Instr.storeAt, Instr.sureAddr, Sem.run_bind, Sem.run_pure, Result.andThen_ok, run_store_own (HO.at hu.mem) hv hsz hp h1]
    exact hK _ _ (h _ (HO.setRow hu) (hk _ _ _ _ HX (HO.at hu.mem)))
theorem own_storeX1 (HO : Mine W0 w bs) (HX : X w) {x y : Operand} (ho : o.op = .store T x y) (hgd : Region.wanted o (yielded ops a.tmps) = true) (hx : a.eval x = .pointer (some ⟨g, off, none⟩)) (hy : EvalTo a y v) (hc : v.cells = [v].toArray)
    (hu : Upd bs g (IsCells cs E) (IsCells cs' E) bs') (hk : XS E X) (hsz : ∀ w, (sizeOf T).run P w = .ok 1 w) (hp : PutAt cs off [v] cs') (h1 : v.oneCell' = true)
    (h : ∀ w', Mine W0 w' bs' → X w' → wpList P ops Q rest (a.put o.dst undef) w') : wpList P ops Q (o :: rest) a w :=
  own_storeX HO HX ho hgd hx (vs := [v]) (by rw [hy.eq, hc]) hu hk hsz hp (by simp [h1]) h
theorem own_boxX (HO : Mine W0 w bs) (HX : X w) (hb : XB X) {x : Operand} (ho : o.op = .box T x) (hgd : Region.wanted o (yielded ops a.tmps) = true) (hv : (a.eval x).cells = cs.toArray)
    (h : ∀ g w', W0.heap.size ≤ g → Mine W0 w' (bs ++ [(g, IsCells cs T)]) → X w' → wpList P ops Q rest (a.put o.dst (.pointer (some ⟨g, 0, none⟩))) w') : wpList P ops Q (o :: rest) a w :=
  wpList_want hgd fun _ hK => by
    unfold Oper.wp execOp
    simp only [ho]
    have hr : (Instr.box T (a.eval x)).run P w = .ok (.pointer (some ⟨w.heap.size, 0, none⟩)) (w.alloc (.cells cs.toArray T)) := by
      simp [Instr.box, Sem.run_bind, run_newVar_own hv]
    rw [Sem.run_bind, hr]
    exact hK _ _ (h _ _ HO.below.size (HO.new _ _ rfl) (hb _ _ HX ((Below.refl _ _).alloc (Nat.le_refl _) _)))
theorem own_allocX (HO : Mine W0 w bs) (HX : X w) (hb : XB X) (ho : o.op = .alloc T) (hgd : Region.wanted o (yielded ops a.tmps) = true) (hz : ∀ w, (zeroValue T).run P w = .ok v w) (hv : v.cells = cs.toArray)
    (h : ∀ g w', W0.heap.size ≤ g → Mine W0 w' (bs ++ [(g, IsCells cs T)]) → X w' → wpList P ops Q rest (a.put o.dst (.pointer (some ⟨g, 0, none⟩))) w') : wpList P ops Q (o :: rest) a w :=
  wpList_want hgd fun _ hK => by
    unfold Oper.wp execOp
    simp only [ho]
    have hr : (Instr.alloc T true (.tuple #[])).run P w = .ok (.pointer (some ⟨w.heap.size, 0, none⟩)) (w.alloc (.cells cs.toArray T)) := by
      simp [Instr.alloc, Sem.run_bind, hz, run_newVar_own hv]
    rw [Sem.run_bind, hr]
    exact hK _ _ (h _ _ HO.below.size (HO.new _ _ rfl) (hb _ _ HX ((Below.refl _ _).alloc (Nat.le_refl _) _)))
theorem own_litX (HO : Mine W0 w bs) (HX : X w) (hb : XB X) (hgd : Region.wanted o (yielded ops a.tmps) = true) {n : Nat} {cs : List Value} {T : TypeId}
    (hrun : (execOp a.eval o).run P w = .ok (.value (.slice (some ⟨w.heap.size, 0, none⟩) n n)) (w.alloc (.cells cs.toArray T)))
    (h : ∀ g w', W0.heap.size ≤ g → Mine W0 w' (bs ++ [(g, IsCells cs T)]) → X w' → wpList P ops Q rest (a.put o.dst (.slice (some ⟨g, 0, none⟩) n n)) w') : wpList P ops Q (o :: rest) a w :=
  wpList_want hgd fun _ hK => by
    unfold Oper.wp
    rw [hrun]
    exact hK _ _ (h _ _ HO.below.size (HO.new _ _ rfl) (hb _ _ HX ((Below.refl _ _).alloc (Nat.le_refl _) _)))
end
end Go.Proofs.Ytllloedhlcdbjaa.Kit
