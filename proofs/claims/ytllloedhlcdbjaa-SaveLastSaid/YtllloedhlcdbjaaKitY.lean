/- A region that draws its order, by facts on its operations' values that later operations keep; the steps that call, make and store. No condition. -/
import Derived.Test.YtllloedhlcdbjaaKitX
import Derived.Test.YtllloedhlcdbjaaWApart
namespace Go.Proofs.Ytllloedhlcdbjaa.Kit
set_option linter.unusedVariables false
set_option linter.unusedSimpArgs false
open Go Go.RowKit

section
variable {P : Program} {Q : Exit → Act → World → Prop}
/-- **A REGION THAT DRAWS ITS ORDER**: F i: what is known of operation i's value (and of the values of those that it names in D i, for which it waits); Rel: what every step keeps. -/
theorem wp_region_mem {id : Nat} {l : List Oper} {a0 : Act} {w0 : World} (hm : P.follows .mixedOrders = true) (hB : anyOk l.toArray = true) (I : World → Prop) (Rel : World → World → Prop) (D : Nat → List Nat) (F : Nat → (Nat → Value) → World → Prop)
    (hD : ((List.range l.length).all fun i => match l[i]? with | none => true | some o => (D i).all fun d => waits l.toArray o d) = true)
    (hW : ∀ i vals w w', F i vals w → Rel w w' → F i vals w') (hV : ∀ i vals vals' w, vals' i = vals i → (∀ d ∈ D i, vals' d = vals d) → F i vals w → F i vals' w) (h0 : I w0.drew)
    (h : ∀ vals A, A = fillL l.toArray vals (List.range l.length) a0 →
      eachFrom (fun i o => ∀ w, (∀ j, waits l.toArray o j = true → F j vals w) → I w → StepOk P l.toArray o A w fun v w' => I w' ∧ Rel w w' ∧ ∀ vals', vals' i = v → (∀ d ∈ D i, vals' d = vals d) → F i vals' w') 0 l ∧
      ∀ w, (∀ i < l.length, F i vals w) → I w → Q .normal A w) :
    (Code.region id l.toArray true).wp P Q a0 w0 := by
  have hDs : ∀ i o, l[i]? = some o → ∀ d ∈ D i, waits l.toArray o d = true := by
    intro i o ho d hd
    have h1 := List.all_eq_true.1 hD i (List.mem_range.2 (List.getElem?_eq_some_iff.1 ho).1)
    rw [ho] at h1
    exact List.all_eq_true.1 h1 d hd
  refine wp_region_inv hm hB (fun js vals w => I w ∧ ∀ j ∈ js, (∀ d ∈ D j, d ∈ js) ∧ F j vals w) ⟨h0, by simp⟩ ?_ ?_
  · intro i o js vals w ho hni hdeps hC
    have ho' : l[i]? = some o := by simpa using ho
    have h1 := eachFrom_spec (h vals _ rfl).1 i o ho' w (fun j hj => (hC.2 _ (hdeps j hj)).2) hC.1
    rw [Nat.zero_add] at h1
    have hdi : ∀ d ∈ D i, d ∈ js := fun d hd => hdeps d (hDs i o ho' d hd)
    have hdi' : ∀ d ∈ D i, d ≠ i := fun d hd e => hni (e ▸ hdi d hd)
    have mono : ∀ {v w'}, (I w' ∧ Rel w w' ∧ ∀ vals', vals' i = v → (∀ d ∈ D i, vals' d = vals d) → F i vals' w') → (I w' ∧ ∀ j ∈ js ++ [i], (∀ d ∈ D j, d ∈ js ++ [i]) ∧ F j (Vset vals i v) w') := by
      rintro v w' ⟨hI, hR, hFi⟩
      refine ⟨hI, fun j hj => ?_⟩
      by_cases hji : j = i
      · subst hji
        exact ⟨fun d hd => List.mem_append_left _ (hdi d hd), hFi _ (Vset_same _ _ _) (fun d hd => Vset_other _ _ (hdi' d hd))⟩
      · rcases List.mem_append.1 hj with h | h
        · obtain ⟨h2, h3⟩ := hC.2 j h
          exact ⟨fun d hd => List.mem_append_left _ (h2 d hd), hV j vals _ w' (Vset_other _ _ hji) (fun d hd => Vset_other _ _ (fun e => hni (e ▸ h2 d hd))) (hW _ _ _ _ h3 hR)⟩
        · simp at h; exact absurd h hji
    have hsz : l.toArray.size = l.length := by simp
    rw [hsz]
    unfold StepOk at h1 ⊢
    split
    · rename_i hw
      rw [if_pos hw] at h1
      generalize (execOp (fillL l.toArray vals (List.range l.length) a0).eval o).run P w = r at h1 ⊢
      cases r with
      | ok n w' =>
        cases n <;> simp only [StepUpon] at h1 ⊢
        case value u => exact mono h1
        case skip => exact mono h1
        case enter f args => exact h1.mono fun e w'' he => by obtain ⟨v, rfl, hk⟩ := he; exact ⟨v, rfl, mono hk⟩
      | halt x w' => simp only [StepUpon] at h1
    · rename_i hw
      rw [if_neg hw] at h1
      exact mono h1
  · intro js vals w hall hC
    have hsz : l.toArray.size = l.length := by simp
    rw [hsz]
    exact (h vals _ rfl).2 w (fun i hi => (hC.2 i (hall i (by simpa using hi))).2) hC.1

variable {ops : Array Oper} {A : Act} {w : World} {o : Oper} {K : Value → World → Prop}
/-- the steps -/
theorem step_value {v : Value} (hg : Region.wanted o (yielded ops A.tmps) = true) (h : (execOp A.eval o).run P w = .ok (.value v) w) (hK : K v w) : StepOk P ops o A w K := StepOk.of_run hg (by rw [h]; exact hK)
theorem step_passed (hg : Region.wanted o (yielded ops A.tmps) = false) (hK : K undef w) : StepOk P ops o A w K := by unfold StepOk; rw [if_neg (by simp [hg])]; exact hK
theorem step_made {v : Value} {w' : World} (hg : Region.wanted o (yielded ops A.tmps) = true) (h : (execOp A.eval o).run P w = .ok (.value v) w') (hK : K v w') : StepOk P ops o A w K := StepOk.of_run hg (by rw [h]; exact hK)
theorem step_did {w' : World} (hg : Region.wanted o (yielded ops A.tmps) = true) (h : (execOp A.eval o).run P w = .ok .skip w') (hK : K undef w') : StepOk P ops o A w K := StepOk.of_run hg (by rw [h]; exact hK)
theorem step_call {f : FuncId} {args : Array Value} {R : Ending → World → Prop} (hg : Region.wanted o (yielded ops A.tmps) = true) (h : (execOp A.eval o).run P w = .ok (.enter f args) w) (hc : Calls P f args w R)
    (hK : ∀ e w', R e w' → ∃ v, e = .returned v ∧ K v w') : StepOk P ops o A w K := StepOk.of_run hg (by rw [h]; exact hc.mono hK)
end

/-- what a region that stores into variables of type T alone (blocks from B on) keeps -/
def KeepT (B : Nat) (T : TypeId) (w w' : World) : Prop :=
  w'.os = w.os ∧ w'.tape = w.tape ∧ w'.output = w.output ∧ w.heap.size ≤ w'.heap.size ∧ ∀ k < w.heap.size, w'.heap[k]? = w.heap[k]? ∨ (B ≤ k ∧ ∃ cs cs', w.heap[k]? = some (.cells cs T (0, 0)) ∧ w'.heap[k]? = some (.cells cs' T (0, 0)) ∧ cs'.size = cs.size)
theorem KeepT.of_below {B : Nat} {T : TypeId} {w w' : World} (h : Below w.heap.size w w') : KeepT B T w w' := ⟨h.os, h.tape, h.output, h.size, fun k hk => .inl (h.block k hk)⟩
theorem KeepT.setRow {B g : Nat} {T : TypeId} {w : World} {cs cs' : Array Value} (hB : B ≤ g) (hg : w.heap[g]? = some (.cells cs T (0, 0))) (hs : cs'.size = cs.size) : KeepT B T w (w.setRow g cs') := by
  refine ⟨rfl, rfl, rfl, by rw [size_setRow]; exact Nat.le_refl _, fun k hk => ?_⟩
  by_cases e : k = g
  · subst e
    exact .inr ⟨hB, cs, cs', hg, setRow_heap w k _ _ T _ hg, hs⟩
  · exact .inl (setRow_other w g k _ e)
theorem KeepT.other {B k : Nat} {T : TypeId} {w w' : World} (h : KeepT B T w w') (hk : k < w.heap.size) (hne : ∀ cs, w.heap[k]? = some (.cells cs T (0, 0)) → k < B) : w'.heap[k]? = w.heap[k]? := by
  rcases h.2.2.2.2 k hk with h1 | ⟨h1, cs, cs', h2, _⟩
  · exact h1
  · have := hne cs h2
    omega
theorem KeepT.mine {B : Nat} {T : TypeId} {W0 w w' : World} {bs : Res} (h : Mine W0 w bs) (hk : KeepT B T w w') (hB : W0.heap.size ≤ B) (hbs : ∀ p ∈ bs, p.1 < B) : Mine W0 w' bs := by
  obtain ⟨h1, h2, h3, h4, h5⟩ := hk
  refine ⟨⟨h1.trans h.below.os, h2.trans h.below.tape, h3.trans h.below.output, Nat.le_trans h.below.size h4, fun k hk' => ?_⟩, h.nodup, fun p hp => ?_⟩
  · rcases h5 k (Nat.lt_of_lt_of_le hk' h.below.size) with e | ⟨e, _⟩
    · rw [e]; exact h.below.block k hk'
    · omega
  · obtain ⟨a, o, b, c⟩ := h.held p hp
    rcases h5 p.1 (h.lt hp) with e | ⟨e, _⟩
    · exact ⟨a, o, e.trans b, c⟩
    · have := hbs p hp; omega
open Go.Proofs.YtllloedhlcdbjaaW.PrintWords in
theorem KeepT.rows {α : Type} {d : Kd α} {e : Nat} {B base : Nat} {T : TypeId} {w w' : World} {ok : Nat → Prop} {v : Value} {xs : List α} (hk : KeepT B T w w') (h : Kd.S d e w base ok v xs) (ht : ∀ q, q ∈ e :: d.E → q ≠ T) : Kd.S d e w' base ok v xs := by
  refine Kd.S_mono (Kd.S_step (Kd.S_bound h) (fun k hk' hlt => ?_)) (fun k hk' => hk'.1)
  obtain ⟨_, _, _, q, hq, cells, hc⟩ := hk'
  refine hk.other hlt (fun cs hcs => ?_)
  rw [hc] at hcs
  cases hcs
  exact absurd rfl (ht _ hq)
end Go.Proofs.Ytllloedhlcdbjaa.Kit
