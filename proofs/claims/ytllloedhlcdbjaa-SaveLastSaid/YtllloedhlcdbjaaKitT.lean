/- A map of the call's own that is written in a loop, kept beside the call's other blocks. No condition. -/
import Derived.Test.YtllloedhlcdbjaaKitC
import Derived.Maps.Own
import Derived.Lib.SlKeysI
namespace Go.Proofs.Ytllloedhlcdbjaa.Kit
set_option linter.unusedVariables false
set_option linter.unusedSimpArgs false
open Go Go.RowKit

/-- a map of at most n entries that reads as the datum D -/
def IsMapD {H : Type} (P : Program) (k : TypeId) (R : Value → Option (DataW H × List MemPlace)) (n : Nat) (D : DataW H) (o : Obj) : Prop :=
  ∃ es clock, o = .map es clock ∧ Go.WideElems.Fit P k R es clock ∧ es.size ≤ n ∧ D = .map ((es.toList.map (Go.WideElems.rg P k R)).foldr DataW.insert [])

variable {H : Type} {P : Program} {ops : Array Oper} {Q : Exit → Act → World → Prop} {a : Act} {w w' W0 : World} {rest : List Oper} {o : Oper} {bs bs' : Res} {g n : Nat} {t k e : TypeId} {R : Value → Option (DataW H × List MemPlace)} {D d : DataW H} {p p' : Obj → Prop}

theorem Mine.ownsMap (HO : Mine W0 w bs) (hm : (g, IsMapD P k R n D) ∈ bs) : w.ownsMap P k R g n D := by
  obtain ⟨_, o, ho, es, c, rfl, h1, h2, h3⟩ := HO.held _ hm
  exact ⟨es, c, ho, h1, h2, h3⟩
theorem Mine.grown (h : Mine W0 w bs) (hu : Upd bs g p p' bs') (hgr : w.grownBy w' (some g)) (hg : ∃ o, w'.heap[g]? = some o ∧ p' o) : Mine W0 w' bs' := by
  have hge := (h.held _ hu.mem).1
  refine ⟨h.below.grown hgr h.below.size (fun k e => by cases e; exact hge), by rw [hu.keys]; exact h.nodup, fun q hq => ?_⟩
  rcases hu.cases h.nodup q hq with rfl | ⟨hq, hne⟩
  · exact ⟨hge, hg⟩
  · obtain ⟨h1, o, h2, h3⟩ := h.held q hq
    exact ⟨h1, o, (hgr.block q.1 (h.lt hq) (fun e => hne (Option.some.inj e))).trans h2, h3⟩

theorem own_makeMapD (P' : Program) (k : TypeId) (R : Value → Option (DataW H × List MemPlace)) (HO : Mine W0 w bs) {t : TypeId} (ho : o.op = .makeMap t none) (hgd : Region.wanted o (yielded ops a.tmps) = true)
    (h : ∀ g w', W0.heap.size ≤ g → Mine W0 w' (bs ++ [(g, IsMapD P' k R 0 (.map []))]) → wpList P ops Q rest (a.put o.dst (.map (some g))) w') : wpList P ops Q (o :: rest) a w :=
  wpList_want hgd fun _ hK => by
    have hr : (execOp a.eval o).run P w = .ok (.value (.map (some w.heap.size))) (w.alloc (.map #[] 0)) := by
      simp only [execOp, ho]; rfl
    unfold Oper.wp
    rw [hr]
    obtain ⟨es, c, h1, h2, h3, h4⟩ := World.ownsMap_made w P' k R
    refine hK _ _ (h _ _ HO.below.size (HO.new (.map #[] 0) (IsMapD P' k R 0 (.map [])) ?_))
    have e1 := (MapKept.heap_alloc w (.map #[] 0)).1
    rw [e1] at h1
    obtain ⟨rfl, rfl⟩ := Obj.map.inj (Option.some.inj h1)
    exact ⟨_, _, rfl, h2, h3, h4⟩

theorem own_put (HO : Mine W0 w bs) {m x y : Operand} {key val : Value} {kl : Lit} {ps : List MemPlace} (ho : o.op = .mapUpdate t m x y) (hgd : Region.wanted o (yielded ops a.tmps) = true) (hm : a.eval m = .map (some g)) (hkx : EvalTo a x key) (hvy : EvalTo a y val)
    (K : Maps.Keyed P k) (ht : P.underlying t = some (.map k e)) (hu : Upd bs g (IsMapD P k R n D) (IsMapD P k R (n + 1) (D.put kl d)) bs') (hn : n < maxLen) (hkey : Go.keyOf P k key = some kl) (hval : R val = some (d, ps))
    (h : ∀ w', Mine W0 w' bs' → wpList P ops Q rest (a.put o.dst undef) w') : wpList P ops Q (o :: rest) a w :=
  wpList_want hgd fun _ hK => by
    have e1 := hkx.eq
    have e2 := hvy.eq
    obtain ⟨w', hrun, ⟨es, c, h1, h2, h3, h4⟩, r2⟩ := (HO.ownsMap hu.mem).update K ht hn hkey hval
    unfold Oper.wp
    simp [execOp, ho, hm, e1, e2, hrun, Result.andThen]
    exact hK _ _ (h _ (HO.grown hu r2 ⟨_, h1, es, c, rfl, h2, h3, h4⟩))

end Go.Proofs.Ytllloedhlcdbjaa.Kit
