/- A drawing region in which one operation stores, and the others read, call or make. No condition. -/
import Derived.Test.YtllloedhlcdbjaaKitM
namespace Go.Proofs.Ytllloedhlcdbjaa.Kit
set_option linter.unusedVariables false
set_option linter.unusedSimpArgs false
open Go Go.RowKit

section
variable {P : Program} {Q : Exit → Act → World → Prop} {ops : Array Oper} {o : Oper} {w : World}
theorem StepOk.mono {K K' : Value → World → Prop} {A : Act} (h : StepOk P ops o A w K) (hK : ∀ v w', K v w' → K' v w') : StepOk P ops o A w K' := by
  unfold StepOk at h ⊢
  split
  · rename_i hw
    rw [if_pos hw] at h
    generalize (execOp A.eval o).run P w = r at h ⊢
    cases r with
    | ok n w' =>
      cases n <;> simp only [StepUpon] at h ⊢
      case value u => exact hK _ _ h
      case skip => exact hK _ _ h
      case enter f args => exact h.mono fun e w'' he => by obtain ⟨v, rfl, hk⟩ := he; exact ⟨v, rfl, hK _ _ hk⟩
    | halt x w' => simp only [StepUpon] at h
  · rename_i hw
    rw [if_neg hw] at h
    exact hK _ _ h

/-- what an operation owes, in a region of which operation s stores -/
def Owes (P : Program) (l : List Oper) (s : Nat) (os : Oper) (W0 w0 : World) (bs bs' : Res) (fs fs' : List Fact) (vals : Nat → Value) (A : Act) (i : Nat) (o : Oper) : Prop :=
  if i = s then ∀ w, (∀ j, waits l.toArray o j = true → Facts fs j (vals j) w) → Mine W0 w bs → Below w0.heap.size w0 w →
      StepOk P l.toArray o A w fun v w' => Mine W0 w' bs' ∧ Facts fs' s v w' ∧ ∀ j, j ≠ s → Facts fs j (vals j) w → Facts fs' j (vals j) w'
  else if waits l.toArray os i = true then ∀ w, (∀ j, waits l.toArray o j = true → Facts fs j (vals j) w) → Mine W0 w bs → Below w0.heap.size w0 w →
      StepOk P l.toArray o A w fun v w' => Below w.heap.size w w' ∧ Facts fs i v w'
  else ∀ w, (∀ j, waits l.toArray o j = true → Facts fs j (vals j) w ∨ Facts fs' j (vals j) w) → StepOk P l.toArray o A w fun v w' => w' = w ∧ Facts fs i v w ∧ Facts fs' i v w

/-- **A DRAWING REGION IN WHICH OPERATION s STORES**: the facts turn with the store; what doesn't stand ahead of the store looks at no world. -/
theorem region_put (s : Nat) (os : Oper) (fs fs' : List Fact) {id : Nat} {l : List Oper} {a0 : Act} {W0 w0 : World} {bs bs' : Res} (HO : Mine W0 w0 bs) (hm : P.follows .mixedOrders = true) (hB : anyOk l.toArray = true) (hso : l[s]? = some os)
    (hs : ∀ p ∈ fs, Stays p) (hs' : ∀ p ∈ fs', Stays p)
    (h : ∀ vals A, A = fillL l.toArray vals (List.range l.length) a0 →
      eachFrom (Owes P l s os W0 w0 bs bs' fs fs' vals A) 0 l ∧
      ∀ w, (∀ i < l.length, Facts fs' i (vals i) w) → Mine W0 w bs' → Q .normal A w) :
    (Code.region id l.toArray true).wp P Q a0 w0 := by
  refine wp_region_inv hm hB (fun js vals w => (s ∉ js ∧ (∀ j ∈ js, Facts fs j (vals j) w) ∧ Mine W0 w bs ∧ Below w0.heap.size w0 w) ∨
    (s ∈ js ∧ (∀ j ∈ js, Facts fs' j (vals j) w) ∧ Mine W0 w bs' ∧ ∀ j, waits l.toArray os j = true → j ∈ js)) ?_ ?_ ?_
  · exact .inl ⟨by simp, by simp, HO.drew, (Below.refl _ _).drew⟩
  · intro i o js vals w ho hni hdeps hC
    have hA := h vals _ rfl
    have hi := eachFrom_spec hA.1 i o (by simpa using ho)
    rw [Nat.zero_add] at hi
    have hsz : l.toArray.size = l.length := by simp
    rw [hsz]
    unfold Owes at hi
    by_cases his : i = s
    · subst his
      rw [if_pos rfl] at hi
      rcases hC with ⟨h1, h2, h3, h4⟩ | ⟨h1, _⟩
      · have e : o = os := by
          have : l[i]? = some o := by simpa using ho
          rw [hso] at this
          exact (Option.some.inj this).symm
        subst e
        refine (hi w (fun j hj => h2 j (hdeps j hj)) h3 h4).mono fun v w' ⟨k1, k3, k4⟩ => .inr ⟨by simp, fun j hj => ?_, k1, fun j hj => List.mem_append_left _ (hdeps j hj)⟩
        rcases List.mem_append.1 hj with hj | hj
        · have hne : j ≠ i := fun e => hni (e ▸ hj)
          rw [Vset_other _ _ hne]
          exact k4 j hne (h2 j hj)
        · rw [List.mem_singleton.1 hj, Vset_same]
          exact k3
      · exact absurd h1 hni
    · rw [if_neg his] at hi
      rcases hC with ⟨h1, h2, h3, h4⟩ | ⟨h1, h2, h3, h5⟩
      · have key : ∀ {v w'}, Below w.heap.size w w' → Facts fs i v w' → (s ∉ js ++ [i] ∧ (∀ j ∈ js ++ [i], Facts fs j (Vset vals i v j) w') ∧ Mine W0 w' bs ∧ Below w0.heap.size w0 w') := by
          intro v w' hb hf
          refine ⟨by simp [h1]; exact fun e => his e.symm, fun j hj => ?_, h3.call hb, h4.trans (hb.mono h4.size)⟩
          rcases List.mem_append.1 hj with hj | hj
          · have hne : j ≠ i := fun e => hni (e ▸ hj)
            rw [Vset_other _ _ hne]
            exact Facts.stays hs j _ _ _ (h2 j hj) hb
          · rw [List.mem_singleton.1 hj, Vset_same]
            exact hf
        by_cases hw : waits l.toArray os i = true
        · rw [if_pos hw] at hi
          exact (hi w (fun j hj => h2 j (hdeps j hj)) h3 h4).mono fun v w' ⟨k1, k2⟩ => .inl (key k1 k2)
        · rw [if_neg hw] at hi
          exact (hi w (fun j hj => .inl (h2 j (hdeps j hj)))).mono fun v w' ⟨k1, k2, k3⟩ => by subst k1; exact .inl (key (Below.refl _ _) k2)
      · have hw : ¬ waits l.toArray os i = true := fun e => hni (h5 i e)
        rw [if_neg hw] at hi
        refine (hi w (fun j hj => .inr (h2 j (hdeps j hj)))).mono fun v w' ⟨k1, k2, k3⟩ => ?_
        subst k1
        refine .inr ⟨by simp [h1], fun j hj => ?_, h3, fun j hj => List.mem_append_left _ (h5 j hj)⟩
        rcases List.mem_append.1 hj with hj | hj
        · have hne : j ≠ i := fun e => hni (e ▸ hj)
          rw [Vset_other _ _ hne]
          exact h2 j hj
        · rw [List.mem_singleton.1 hj, Vset_same]
          exact k3
  · intro js vals w hall hC
    have hsz : l.toArray.size = l.length := by simp
    rw [hsz]
    have hA := h vals _ rfl
    have hsl : s < l.length := (List.getElem?_eq_some_iff.1 hso).1
    rcases hC with ⟨h1, _⟩ | ⟨h1, h2, h3, _⟩
    · exact absurd (hall s (by simpa using hsl)) h1
    · exact hA.2 w (fun i hi => h2 i (hall i (by simpa using hi))) h3

/-- a fact that looks at no world -/
def Pure (p : Fact) : Prop := ∀ v w w', p v w → p v w'
theorem Pure.fIs (x : Value) : Pure (fIs x) := fun _ _ _ h => h
theorem pure_cons {p : Fact} {fs : List Fact} (h : Pure p) (hs : ∀ q ∈ fs, Pure q) : ∀ q ∈ p :: fs, Pure q := by
  intro q hq
  rcases List.mem_cons.1 hq with rfl | hq
  · exact h
  · exact hs q hq
theorem pure_nil : ∀ q ∈ ([] : List Fact), Pure q := fun q h => by cases h
/-- facts that look at no world turn with any store -/
theorem facts_turn {fs : List Fact} {p : Fact} (hp : ∀ q ∈ fs, Pure q) {k : Nat} (hk : k ≠ fs.length) {v : Value} {w w' : World} (h : Facts fs k v w) : Facts (fs ++ [p]) k v w' := by
  unfold Facts at h ⊢
  rw [List.getD_eq_getElem?_getD] at h ⊢
  by_cases hlt : k < fs.length
  · rw [List.getElem?_append_left hlt]
    have e : fs[k]? = some fs[k] := by simp [hlt]
    rw [e] at h ⊢
    exact hp _ (List.getElem_mem hlt) _ _ _ h
  · rw [List.getElem?_append_right (by omega)]
    have e : [p][k - fs.length]? = none := by rw [List.getElem?_eq_none_iff]; simp; omega
    rw [e]
    trivial

/-- a store into a block of the call's own -/
theorem st_store {W0 : World} {bs bs' : Res} {x y : Operand} {T E : TypeId} {g off : Nat} {cs cs' vs : List Value} {A : Act} {K : Value → World → Prop} (HO : Mine W0 w bs) (hg : Region.wanted o (yielded ops A.tmps) = true) (ho : o.op = .store T x y) (hx : A.eval x = .pointer (some ⟨g, off, none⟩)) (hv : (A.eval y).cells = vs.toArray)
    (hu : Upd bs g (IsCells cs E) (IsCells cs' E) bs') (hsz : ∀ w, (sizeOf T).run P w = .ok vs.length w) (hp : PutAt cs off vs cs') (h1 : vs.all (·.oneCell') = true)
    (hK : ∀ w', Mine W0 w' bs' → Below W0.heap.size W0 w' → (∀ b, w.heap.size ≤ b ∨ b ≠ g → w'.heap[b]? = w.heap[b]?) → w'.heap.size = w.heap.size → K undef w') : StepOk P ops o A w K := by
  have hr : (execOp A.eval o).run P w = .ok .skip (w.setRow g cs'.toArray) := by
    unfold execOp
    simp only [ho, hx, Instr.storeAt, Instr.sureAddr, Sem.run_bind, Sem.run_pure, Result.andThen_ok, run_store_own (HO.at hu.mem) hv hsz hp h1]
  refine StepOk.of_run hg ?_
  rw [hr]
  have hM := HO.setRow hu
  have hlt : g < w.heap.size := HO.lt hu.mem
  exact hK _ hM hM.below (fun b hb => by
    refine setRow_other w g b _ ?_
    rcases hb with hb | hb
    · omega
    · exact hb) (size_setRow _ _ _)
/-- a value, whatever the world -/
theorem st_pure {A : Act} {v : Value} {f1 f2 : Fact} (hg : Region.wanted o (yielded ops A.tmps) = true) (h : ∀ w, (execOp A.eval o).run P w = .ok (.value v) w) (hf : f1 v w ∧ f2 v w) : StepOk P ops o A w fun v w' => w' = w ∧ f1 v w ∧ f2 v w := by
  refine StepOk.of_run hg ?_
  rw [h w]
  exact ⟨rfl, hf.1, hf.2⟩
end
end Go.Proofs.Ytllloedhlcdbjaa.Kit
