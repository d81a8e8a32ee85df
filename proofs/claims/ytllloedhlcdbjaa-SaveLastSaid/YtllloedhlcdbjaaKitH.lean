/- More laws of the walk with blocks of its own: elements that are read of slices that came in. No condition. -/
import Derived.Test.YtllloedhlcdbjaaKitE
import Derived.Test.YtllloedhlcdbjaaKitF
namespace Go.Proofs.Ytllloedhlcdbjaa.Kit
set_option linter.unusedVariables false
set_option linter.unusedSimpArgs false
open Go Go.RowKit
section
variable {P : Program} {ops : Array Oper} {Q : Exit → Act → World → Prop} {a : Act} {w W0 : World} {rest : List Oper} {o : Oper} {bs : Res}
/-- an element of what came in -/
theorem own_read (HO : Mine W0 w bs) {x : Operand} {T : TypeId} {ad : Addr} {v : Value} (ho : o.op = .load T x) (hgd : Region.wanted o (yielded ops a.tmps) = true) (hx : a.eval x = .pointer (some ad)) (hc : W0.cell? ad = some v)
    (hagg : ∀ w, (isAgg T).run P w = .ok false w) (h : wpList P ops Q rest (a.put o.dst v) w) : wpList P ops Q (o :: rest) a w :=
  wpList_want hgd fun _ hK => by
    have hc' := (HO.below.cell (World.block_lt_of_cell? W0 _ hc)).trans hc
    unfold Oper.wp execOp
    have hr : (loadVar T ad).run P w = .ok v w := by simp [loadVar, Sem.run_bind, hagg, load, Sem.run, hc']
    simp only [ho, hx, Instr.loadAt, Instr.sureAddr, Sem.run_bind, Sem.run_pure, Result.andThen_ok, hr]
    exact hK _ _ h
end
/-- a region that draws: operation m0 alone changes the world, and makes memory; X: what holds then -/
def CallInv (m0 : Nat) (wd : World) (X : World → Prop) (js : List Nat) (w : World) : Prop := (m0 ∉ js ∧ w = wd) ∨ (m0 ∈ js ∧ Below wd.heap.size wd w ∧ X w)
theorem CallInv.start {m0 : Nat} {wd : World} {X : World → Prop} : CallInv m0 wd X [] wd := .inl ⟨by simp, rfl⟩
theorem CallInv.light {m0 i : Nat} {wd w : World} {X : World → Prop} {js : List Nat} (h : CallInv m0 wd X js w) (hi : m0 ≠ i) : CallInv m0 wd X (js ++ [i]) w := by
  rcases h with ⟨h1, h2⟩ | ⟨h1, h2⟩
  · exact .inl ⟨by simp [h1, hi], h2⟩
  · exact .inr ⟨by simp [h1], h2⟩
theorem CallInv.before {m0 : Nat} {wd w : World} {X : World → Prop} {js : List Nat} (h : CallInv m0 wd X js w) (hn : m0 ∉ js) : w = wd := by
  rcases h with ⟨_, h2⟩ | ⟨h1, _⟩
  · exact h2
  · exact absurd h1 hn
theorem CallInv.after {m0 : Nat} {wd w : World} {X : World → Prop} {js : List Nat} (h : CallInv m0 wd X js w) (hn : m0 ∈ js) : Below wd.heap.size wd w ∧ X w := by
  rcases h with ⟨h1, _⟩ | ⟨_, h2⟩
  · exact absurd hn h1
  · exact h2
theorem CallInv.below {m0 : Nat} {wd w : World} {X : World → Prop} {js : List Nat} (h : CallInv m0 wd X js w) : Below wd.heap.size wd w := by
  rcases h with ⟨_, rfl⟩ | ⟨_, h2, _⟩
  · exact Below.refl _ _
  · exact h2
section
variable {P : Program} {ops : Array Oper} {A : Act} {w wd : World} {o : Oper} {X : World → Prop} {js : List Nat} {m0 i : Nat}
theorem CallInv.value {v : Value} (h : CallInv m0 wd X js w) (hi : m0 ≠ i) (hg : o.guard = none) (hr : (execOp A.eval o).run P w = .ok (.value v) w) : StepOk P ops o A w fun v' w' => v' = v ∧ CallInv m0 wd X (js ++ [i]) w' :=
  StepOk.value hg hr ⟨rfl, h.light hi⟩
theorem CallInv.call {f : FuncId} {args : Array Value} {v : Value} (h : CallInv m0 wd X js w) (hn : m0 ∉ js) (hg : o.guard = none) (hr : ∀ w, (execOp A.eval o).run P w = .ok (.enter f args) w)
    (hc : Calls P f args wd fun e w' => e = .returned v ∧ Below wd.heap.size wd w' ∧ X w') : StepOk P ops o A w fun v' w' => v' = v ∧ CallInv m0 wd X (js ++ [m0]) w' := by
  have e := h.before hn
  subst e
  refine StepOk.of_run (by simp [Region.wanted, hg]) ?_
  rw [hr]
  exact hc.mono fun e w' he => ⟨v, he.1, rfl, .inr ⟨by simp, he.2⟩⟩
end
end Go.Proofs.Ytllloedhlcdbjaa.Kit
