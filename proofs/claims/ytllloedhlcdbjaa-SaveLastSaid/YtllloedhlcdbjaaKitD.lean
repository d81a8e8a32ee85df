/- Laws for maps of the call's own, and for '==' of structs, at an operation of a walk. No condition. -/
import Derived.Test.YtllloedhlcdbjaaKitC
import Derived.Laws.StructEq
namespace Go.Proofs.Ytllloedhlcdbjaa.Kit
set_option linter.unusedVariables false
set_option linter.unusedSimpArgs false
open Go Go.RowKit MapKept

/-- A map whose entries are these, in whatever order. -/
def IsMapOf (T : List (Value × Value)) (o : Obj) : Prop := ∃ es c, o = .map es c ∧ (es.toList.map ent).Perm T

variable {P : Program} {ops : Array Oper} {Q : Exit → Act → World → Prop} {a : Act} {w W0 : World} {rest : List Oper} {o : Oper} {bs bs' : Res} {g : Nat} {mt kt et : TypeId} {d : TypeDesc} {k v z : Value} {T : List (Value × Value)}

theorem Mine.holds (HO : Mine W0 w bs) (hm : (g, IsMapOf T) ∈ bs) : HoldsMap w g T := by
  obtain ⟨_, o, ho, es, c, rfl, hp⟩ := HO.held _ hm
  exact ⟨es, c, ho, hp⟩

theorem own_makeMap (HO : Mine W0 w bs) {t : TypeId} (ho : o.op = .makeMap t none) (hgd : Region.wanted o (yielded ops a.tmps) = true)
    (h : ∀ g w', W0.heap.size ≤ g → Mine W0 w' (bs ++ [(g, IsMapOf [])]) → wpList P ops Q rest (a.put o.dst (.map (some g))) w') : wpList P ops Q (o :: rest) a w :=
  wpList_want hgd fun _ hK => by
    have hr : (execOp a.eval o).run P w = .ok (.value (.map (some w.heap.size))) (w.alloc (.map #[] 0)) := by
      simp only [execOp, ho]; rfl
    unfold Oper.wp
    rw [hr]
    exact hK _ _ (h _ _ HO.below.size (HO.new (.map #[] 0) (IsMapOf []) ⟨#[], 0, rfl, List.Perm.nil⟩))

theorem run_insert_own (HO : Mine W0 w bs) (hu : Upd bs g (IsMapOf T) (IsMapOf (T ++ [(k, v)])) bs') (hm : P.underlying mt = some (.map kt et)) (hd : P.underlying kt = some d)
    (hT : ∀ p ∈ T, IsKey d p.1) (hk : IsKey d k) (hfresh : ∀ p ∈ T, p.1 ≠ k) : ∃ w', (Instr.mapUpdate mt (.map (some g)) k v).run P w = .ok () w' ∧ Mine W0 w' bs' := by
  obtain ⟨es, c, hb, hp⟩ := HO.holds hu.mem
  have hkx : ∀ x ∈ es.toList, IsKey d x.key := fun x hx => hT (ent x) (hp.mem_iff.1 (List.mem_map.2 ⟨x, hx, rfl⟩))
  rcases findNow_spec hk es.toList 0 hkx with ⟨h1, _⟩ | ⟨j, e, _, hj, hje⟩
  · refine ⟨{ w with heap := w.heap.setIfInBounds g (.map (es.push { key := k, val := v, born := c }) (c + 1)) }, ?_, ?_⟩
    · simp [Instr.mapUpdate, run_underlying hm, MapKept.run_getObj_map hb, MapKept.run_checkKey hd hk, MapKept.run_findKey hd h1, MapKept.run_setObj_map _ hb, Result.andThen]
    · have hlt : g < w.heap.size := HO.lt hu.mem
      refine HO.turn hu rfl rfl rfl (by simp) (fun i hi => by simp [Ne.symm hi]) ⟨_, by simp [hlt], es.push { key := k, val := v, born := c }, c + 1, rfl, ?_⟩
      have e1 : (es.push { key := k, val := v, born := c }).toList.map ent = es.toList.map ent ++ [(k, v)] := by simp [ent]
      rw [e1]
      exact hp.append_right _
  · exact absurd hje (hfresh (ent e) (hp.mem_iff.1 (List.mem_map.2 ⟨e, List.mem_of_getElem? hj, rfl⟩)))

theorem own_insert (HO : Mine W0 w bs) {x kx y : Operand} (ho : o.op = .insert mt x kx y) (hgd : Region.wanted o (yielded ops a.tmps) = true) (hx : a.eval x = .map (some g)) (hkx' : EvalTo a kx k) (hy' : EvalTo a y v)
    (hm : P.underlying mt = some (.map kt et)) (hd : P.underlying kt = some d) (hu : Upd bs g (IsMapOf T) (IsMapOf (T ++ [(k, v)])) bs') (hT : ∀ p ∈ T, IsKey d p.1) (hk : IsKey d k) (hfresh : ∀ p ∈ T, p.1 ≠ k)
    (h : ∀ w', Mine W0 w' bs' → wpList P ops Q rest (a.put o.dst undef) w') : wpList P ops Q (o :: rest) a w :=
  wpList_want hgd fun _ hK => by
    have hkx := hkx'.eq
    have hy := hy'.eq
    obtain ⟨w', hr, hM⟩ := run_insert_own HO hu hm hd hT hk hfresh
    have hr' : (execOp a.eval o).run P w = .ok .skip w' := by
      simp only [execOp, ho, hx, hkx, hy]
      rw [Sem.run_bind, hr]; rfl
    unfold Oper.wp
    rw [hr']
    exact hK _ _ (h _ hM)

theorem own_lookup (HO : Mine W0 w bs) {x kx : Operand} {commaOk ok : Bool} (ho : o.op = .lookup mt x kx commaOk) (hgd : Region.wanted o (yielded ops a.tmps) = true) (hx : a.eval x = .map (some g)) (hkx' : EvalTo a kx k)
    (hm : P.underlying mt = some (.map kt et)) (hd : P.underlying kt = some d) (hz : ∀ w, (zeroValue et).run P w = .ok z w) (hmem : (g, IsMapOf T) ∈ bs) (hkeys : (T.map (·.1)).Nodup) (hT : ∀ p ∈ T, IsKey d p.1) (hk : IsKey d k)
    (hs : Says T k z v ok) (h : wpList P ops Q rest (a.put o.dst (if commaOk then .tuple #[v, .bool ok] else v)) w) : wpList P ops Q (o :: rest) a w :=
  wpList_want hgd fun _ hK => by
    have hkx := hkx'.eq
    have hr : (execOp a.eval o).run P w = .ok (.value (if commaOk then .tuple #[v, .bool ok] else v)) w := by
      simp only [execOp, ho, hx, hkx]
      rw [Sem.run_bind, run_lookup hm hd hz (HO.holds hmem) hkeys hT hk hs commaOk]; rfl
    unfold Oper.wp
    rw [hr]
    exact hK _ _ h

/-! '==' of structs -/
section
variable {dp : Nat} {xs ys : Array Value} {f : Field} {fs : List Field} {p q : Value} {r s : Bool}
theorem eqF_nil : (Op.eqFields dp xs ys []).run P w = .ok true w := by simp [Op.eqFields]
theorem eqF_cons (hn : (f.name == "_") = false) (ha : (part f.type xs f.offset).run P w = .ok p w) (hb : (part f.type ys f.offset).run P w = .ok q w) (he : (Op.equalIn dp f.type p q).run P w = .ok r w)
    (hr : (Op.eqFields dp xs ys fs).run P w = .ok s w) : (Op.eqFields dp xs ys (f :: fs)).run P w = .ok (r && s) w := by
  have hn' : f.name ≠ "_" := by simpa using hn
  simp only [Op.eqFields, if_pos hn', Sem.run_bind, ha, hb, he, Result.andThen_ok]
  cases r <;> simp [hr]
theorem eqStruct_of {t : TypeId} {fs : Array Field} (hu : P.underlying t = some (.struct fs)) (hp : P.stoodInHeld t = false) (h : (Op.eqFields dp xs ys fs.toList).run P w = .ok r w) :
    (Op.equalIn (dp + 1) t (.agg xs) (.agg ys)).run P w = .ok r w := by
  have hf : P.fieldsOf t = fs := by simp [Program.fieldsOf, hu]
  rw [run_equalIn_struct (P := P) w dp t xs ys (by rw [hf]; exact hu) hp, hf]
  exact h
end

/-- '==' of two structs (or arrays) at an operation. -/
theorem own_eql {x y : Operand} {t t' : TypeId} {b : Bool} {xs ys : Array Value} (ho : o.op = .binOp .eql t x y t') (hgd : Region.wanted o (yielded ops a.tmps) = true) (hx : a.eval x = .agg xs) (hy : a.eval y = .agg ys)
    (hG : P.eqGuardType P.depth t = false) (hE : ∀ w, (Op.equal t (.agg xs) (.agg ys)).run P w = .ok b w) (h : wpList P ops Q rest (a.put o.dst (.bool b)) w) : wpList P ops Q (o :: rest) a w :=
  wpList_want hgd fun _ hK => by
    have e1 : (eqGuard .eql t x y (.agg xs) (.agg ys)).run P w = .ok () w := by
      simp [eqGuard, Sem.run_bind, go_sem, hG]
    have e2 : (binOp .eql t (.agg xs) (.agg ys)).run P w = .ok (.bool b) w := by
      have e3 : binOp .eql t (.agg xs) (.agg ys) = (do let r ← Op.equal t (.agg xs) (.agg ys); pure (Value.bool r)) := rfl
      rw [e3, Sem.run_bind, hE]
      rfl
    have hr : (execOp a.eval o).run P w = .ok (.value (.bool b)) w := by
      simp only [execOp, ho, hx, hy, Sem.run_bind, e1, Result.andThen_ok, e2]
      rfl
    unfold Oper.wp
    rw [hr]
    exact hK _ _ h

end Go.Proofs.Ytllloedhlcdbjaa.Kit
