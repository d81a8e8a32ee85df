/- Facts of a drawing region of which one operation stores into what another one made. No condition. -/
import Derived.Test.YtllloedhlcdbjaaSvM
namespace Go.Proofs.Ytllloedhlcdbjaa
set_option linter.unusedVariables false
set_option linter.unusedSimpArgs false
open Go.RowKit Kit Go.Proofs.YtllloedhlcdbjaaW.PrintWords
namespace Kit
theorem Pure.fAny : Pure fAny := fun _ _ _ h => h
theorem facts_mid {L1 L2 : List Fact} {p p' : Fact} (h1 : ∀ q ∈ L1, Pure q) (h2 : ∀ q ∈ L2, Pure q) {k : Nat} (hk : k ≠ L1.length) {v : Value} {w w' : World} (h : Facts (L1 ++ p :: L2) k v w) : Facts (L1 ++ p' :: L2) k v w' := by
  unfold Facts at h ⊢
  rw [List.getD_eq_getElem?_getD] at h ⊢
  by_cases hlt : k < L1.length
  · rw [List.getElem?_append_left hlt] at h ⊢
    have e : L1[k]? = some L1[k] := by simp [hlt]
    rw [e] at h ⊢
    exact h1 _ (List.getElem_mem hlt) _ _ _ h
  · rw [List.getElem?_append_right (by omega)] at h ⊢
    obtain ⟨i, hi⟩ : ∃ i, k - L1.length = i + 1 := ⟨k - L1.length - 1, by omega⟩
    rw [hi, List.getElem?_cons_succ] at h ⊢
    cases e : L2[i]? with
    | none => trivial
    | some q =>
      rw [e] at h
      exact h2 q (List.mem_of_getElem? e) _ _ _ h
theorem facts_at {L1 L2 : List Fact} {p : Fact} {v : Value} {w : World} : Facts (L1 ++ p :: L2) L1.length v w = p v w := by
  unfold Facts
  rw [List.getD_eq_getElem?_getD, List.getElem?_append_right (by omega)]
  simp
/-- a store into a new variable -/
theorem new_stored {P : Program} {ops : Array Oper} {o : Oper} {w : World} {A : Act} {W0 : World} {bs : Res} {B iA s : Nat} {L1 L2 : List Fact} {T : TypeId} {Z cs : List Value} {x y : Operand} {vals : Nat → Value} (hM : Mine W0 w bs) (hlt : ∀ q ∈ bs, q.1 < B) (hW : W0.heap.size ≤ B)
    (hv : fVar B T Z (vals iA) w) (hiA : iA = L1.length) (hg : Region.wanted o (yielded ops A.tmps) = true) (ho : o.op = .store T x y) (hx : A.eval x = vals iA) (hy : (A.eval y).cells = cs.toArray)
    (hsz : ∀ w, (sizeOf T).run P w = .ok cs.length w) (hp : PutAt Z 0 cs cs) (h1 : cs.all (·.oneCell') = true) (hp1 : ∀ q ∈ L1, Pure q) (hp2 : ∀ q ∈ L2, Pure q) (hs : ∀ v w, Facts (L1 ++ fVar B T cs :: L2) s v w) :
    StepOk P ops o A w fun v w' => Mine W0 w' bs ∧ Facts (L1 ++ fVar B T cs :: L2) s v w' ∧ ∀ j, j ≠ s → Facts (L1 ++ fVar B T Z :: L2) j (vals j) w → Facts (L1 ++ fVar B T cs :: L2) j (vals j) w' := by
  obtain ⟨b, e, hge, hb⟩ := hv
  have hM2 := hM.take (p := IsCells Z T) hlt hW hge ⟨_, hb, rfl⟩
  have hu : ∀ (l : Res), Upd (l ++ [(b, IsCells Z T)]) b (IsCells Z T) (IsCells cs T) (l ++ [(b, IsCells cs T)]) := by
    intro l
    induction l with
    | nil => exact .here
    | cons x l ih => exact .there ih
  refine st_store (T := T) hM2 hg ho (by rw [hx, e]) hy (hu bs) hsz hp h1 ?_
  intro w' hM3 _ _ _
  have hblk := hM3.at (g := b) (cs := cs) (T := T) (List.mem_append_right _ (.head _))
  refine ⟨hM3.less (List.sublist_append_left _ _), hs _ _, fun j _ hf => ?_⟩
  by_cases hj : j = L1.length
  · subst hj
    rw [facts_at]
    exact ⟨b, by rw [← hiA]; exact e, hge, hblk⟩
  · exact facts_mid hp1 hp2 hj hf
end Kit

end Go.Proofs.Ytllloedhlcdbjaa
