/- A region that draws its order and leaves the call's own blocks as they are: one walk of the text's order; its laws. No condition. -/
import Derived.Test.YtllloedhlcdbjaaKitD
import Derived.Deep.Quiet
namespace Go.Proofs.Ytllloedhlcdbjaa.Kit
set_option linter.unusedVariables false
set_option linter.unusedSimpArgs false
open Go Go.RowKit MapKept

variable {P : Program} {ops : Array Oper} {Q : Exit → Act → World → Prop} {R : Act → Prop} {a : Act} {w W0 : World} {rest : List Oper} {o : Oper} {bs bs' : Res} {g off n : Nat} {cs cs' vs : List Value} {T E : TypeId} {v v1 : Value} {C : World → Prop}

/-- The class of worlds: the call's own blocks are so. -/
def MineC (W0 : World) (bs : Res) : World → Prop := fun w => Mine W0 w bs

theorem region_quiet {id : Nat} {l : List Oper} (HO : Mine W0 w bs) (hm : P.follows .mixedOrders = true) (hB : Region.lexB .any l.toArray = true)
    (h : wpQuiet P l.toArray (MineC W0 bs) (fun a' => ∀ w', Mine W0 w' bs → Q .normal a' w') l a) : (Code.region id l.toArray true).wp P Q a w :=
  wp_region_quiet (C := MineC W0 bs) hm hB HO.drew (by simpa [MineC] using h)

theorem q_val (hw : Region.wanted o (yielded ops a.tmps) = true) (hv : ∀ w, (execOp a.eval o).run P w = .ok (.value v) w) (h : wpQuiet P ops C R rest (a.put o.dst v)) : wpQuiet P ops C R (o :: rest) a := by
  unfold wpQuiet
  rw [if_pos hw]
  exact ⟨v, fun w _ => by unfold Oper.quietAt; rw [hv w]; exact ⟨rfl, rfl⟩, h⟩
theorem q_skip (hw : Region.wanted o (yielded ops a.tmps) = false) (h : wpQuiet P ops C R rest (a.put o.dst undef)) : wpQuiet P ops C R (o :: rest) a := by
  unfold wpQuiet
  rw [if_neg (by simp [hw])]
  exact h
theorem q_mine (hw : Region.wanted o (yielded ops a.tmps) = true) (hv : ∀ w, Mine W0 w bs → (execOp a.eval o).run P w = .ok (.value v) w) (h : wpQuiet P ops (MineC W0 bs) R rest (a.put o.dst v)) : wpQuiet P ops (MineC W0 bs) R (o :: rest) a := by
  unfold wpQuiet
  rw [if_pos hw]
  exact ⟨v, fun w hC => by unfold Oper.quietAt; rw [hv w hC]; exact ⟨rfl, rfl⟩, h⟩

theorem q_move {x : Operand} (ho : o.op = .move x) (hw : Region.wanted o (yielded ops a.tmps) = true) (hx : EvalTo a x v) (h : wpQuiet P ops C R rest (a.put o.dst v)) : wpQuiet P ops C R (o :: rest) a :=
  q_val hw (fun w => by simp only [execOp, ho, hx.eq]; rfl) h
theorem q_assign {x : Operand} (ho : o.op = .assign x) (hw : Region.wanted o (yielded ops a.tmps) = true) (hx : EvalTo a x v) (h : wpQuiet P ops C R rest (a.put o.dst v)) : wpQuiet P ops C R (o :: rest) a :=
  q_val hw (fun w => by simp only [execOp, ho, hx.eq]; rfl) h
theorem q_pick_true {c x y : Operand} (ho : o.op = .pick c x y) (hw : Region.wanted o (yielded ops a.tmps) = true) (hc : a.eval c = .bool true) (hx : EvalTo a x v) (h : wpQuiet P ops C R rest (a.put o.dst v)) : wpQuiet P ops C R (o :: rest) a :=
  q_val hw (fun w => by simp only [execOp, ho, hc]; simp [asBool, hx.eq]) h
theorem q_pick_false {c x y : Operand} (ho : o.op = .pick c x y) (hw : Region.wanted o (yielded ops a.tmps) = true) (hc : a.eval c = .bool false) (hx : EvalTo a y v) (h : wpQuiet P ops C R rest (a.put o.dst v)) : wpQuiet P ops C R (o :: rest) a :=
  q_val hw (fun w => by simp only [execOp, ho, hc]; simp [asBool, hx.eq]) h
theorem q_load {x : Operand} (ho : o.op = .load T x) (hw : Region.wanted o (yielded ops a.tmps) = true) (hx : a.eval x = .pointer (some ⟨g, off, none⟩)) (hm : (g, IsCells cs E) ∈ bs)
    (hagg : ∀ w, (isAgg T).run P w = .ok true w) (hsz : ∀ w, (sizeOf T).run P w = .ok n w) (hs : Slc cs off n vs) (h : wpQuiet P ops (MineC W0 bs) R rest (a.put o.dst (.agg vs.toArray))) : wpQuiet P ops (MineC W0 bs) R (o :: rest) a :=
  q_mine hw (fun w HO => by simp only [execOp, ho, hx, Instr.loadAt, Instr.sureAddr, Sem.run_bind, Sem.run_pure, Result.andThen_ok, run_load_own (HO.at hm) hagg hsz hs]) h
theorem q_load1 {x : Operand} (ho : o.op = .load T x) (hw : Region.wanted o (yielded ops a.tmps) = true) (hx : a.eval x = .pointer (some ⟨g, off, none⟩)) (hm : (g, IsCells cs E) ∈ bs)
    (hagg : ∀ w, (isAgg T).run P w = .ok false w) (hv : cs[off]? = some v) (h : wpQuiet P ops (MineC W0 bs) R rest (a.put o.dst v)) : wpQuiet P ops (MineC W0 bs) R (o :: rest) a :=
  q_mine hw (fun w HO => by simp only [execOp, ho, hx, Instr.loadAt, Instr.sureAddr, Sem.run_bind, Sem.run_pure, Result.andThen_ok, run_load1_own (HO.at hm) hagg hv]) h
theorem q_call {f : FuncId} {args : Array Operand} {argTypes : Array TypeId} {as : List Value} (ho : o.op = .call { callee := .value (.func f), args := args, argTypes := argTypes }) (hw : Region.wanted o (yielded ops a.tmps) = true)
    (he : ∀ args w, (callFunc f args).run P w = .ok (.enter f args) w) (hx : args.toList.map a.eval = as)
    (hc : ∀ w, Mine W0 w bs → Calls P f as.toArray w fun e w' => e = .returned v ∧ Below w.heap.size w w') (h : wpQuiet P ops (MineC W0 bs) R rest (a.put o.dst v)) : wpQuiet P ops (MineC W0 bs) R (o :: rest) a := by
  unfold wpQuiet
  rw [if_pos hw]
  refine ⟨v, fun w hC => ?_, h⟩
  have hargs : args.map a.eval = as.toArray := by rw [← hx]; apply Array.ext'; simp
  have hr : (execOp a.eval o).run P w = .ok (.enter f as.toArray) w := by
    simp only [execOp, ho, resolve, hargs]
    have e1 : a.eval (.func f) = .func (.func f) #[] #[] := rfl
    rw [e1]
    simp [Deferred.ofValue, invoke, go_sem, he]
  unfold Oper.quietAt
  rw [hr]
  exact ⟨rfl, (hc w hC).mono fun e w' h => ⟨h.1, Mine.call hC h.2⟩⟩
theorem q_eql {x y : Operand} {t t' : TypeId} {b : Bool} {xs ys : Array Value} (ho : o.op = .binOp .eql t x y t') (hw : Region.wanted o (yielded ops a.tmps) = true) (hx : a.eval x = .agg xs) (hy : a.eval y = .agg ys)
    (hG : P.eqGuardType P.depth t = false) (hE : ∀ w, (Op.equal t (.agg xs) (.agg ys)).run P w = .ok b w) (h : wpQuiet P ops C R rest (a.put o.dst (.bool b))) : wpQuiet P ops C R (o :: rest) a :=
  q_val hw (fun w => by
    have e1 : (eqGuard .eql t x y (.agg xs) (.agg ys)).run P w = .ok () w := by
      simp [eqGuard, Sem.run_bind, go_sem, hG]
    have e2 : (binOp .eql t (.agg xs) (.agg ys)).run P w = .ok (.bool b) w := by
      have e3 : binOp .eql t (.agg xs) (.agg ys) = (do let r ← Op.equal t (.agg xs) (.agg ys); pure (Value.bool r)) := rfl
      rw [e3, Sem.run_bind, hE]
      rfl
    simp only [execOp, ho, hx, hy, Sem.run_bind, e1, Result.andThen_ok, e2]
    rfl) h

end Go.Proofs.Ytllloedhlcdbjaa.Kit
