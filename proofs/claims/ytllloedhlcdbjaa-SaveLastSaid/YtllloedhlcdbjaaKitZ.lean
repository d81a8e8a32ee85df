/- A region that draws its order, in two parts: what may come in any order, by facts; and the end, whose operations wait for all ahead of them: walked in the text's order. No condition. -/
import Derived.Test.YtllloedhlcdbjaaKitY
namespace Go.Proofs.Ytllloedhlcdbjaa.Kit
set_option linter.unusedVariables false
set_option linter.unusedSimpArgs false
open Go Go.RowKit

/-- From place k on each operation waits for all ahead of it. -/
def tailOk (ops : Array Oper) (k : Nat) : Bool :=
  (List.range ops.size).all fun i => decide (i < k) || match ops[i]? with | none => true | some o => (List.range i).all fun j => waits ops o j

section
variable {P : Program} {ops : Array Oper} {Q : Exit → Act → World → Prop}
theorem tailOk_spec {k : Nat} (h : tailOk ops k = true) {i : Nat} {o : Oper} (ho : ops[i]? = some o) (hk : k ≤ i) {j : Nat} (hj : j < i) : waits ops o j = true := by
  have h1 := List.all_eq_true.1 h i (List.mem_range.2 (Array.getElem?_eq_some_iff.1 ho).1)
  rw [ho, decide_eq_false (by omega), Bool.false_or] at h1
  exact List.all_eq_true.1 h1 j (List.mem_range.2 hj)
theorem reachB_le (hE : depsOk ops = true) : ∀ (f i j : Nat), reachB ops f i j = true → j ≤ i
  | 0, i, j, h => by simp [reachB] at h; omega
  | f + 1, i, j, h => by
    simp only [reachB, Bool.or_eq_true, beq_iff_eq] at h
    rcases h with rfl | h
    · exact Nat.le_refl _
    · cases ho : ops[i]? with
      | none => rw [ho] at h; cases h
      | some o =>
        rw [ho] at h
        obtain ⟨e, he, hp⟩ := List.any_eq_true.1 h
        simp only [Bool.and_eq_true] at hp
        have h1 := reachB_le hE f e.on j hp.2
        have h2 := (depsOk_spec hE ho).1 e (by simpa using he) hp.1
        omega

theorem wpAny_tail (hE : depsOk ops = true) {k0 : Nat} (hT : tailOk ops k0 = true) : ∀ (fuel k : Nat) (listed : Array Bool) (a : Act) (w : World), k0 ≤ k → k + fuel = ops.size → listed.size = ops.size →
    (∀ j < ops.size, listed.getD j true = decide (j < k) ∧ listed.getD j false = decide (j < k)) → wpList P ops Q (ops.toList.drop k) a w → wpAny P .any ops Q fuel listed a w := by
  intro fuel
  induction fuel with
  | zero =>
    intro k listed a w hk hs hsz hl h
    have hnil : ops.toList.drop k = [] := List.drop_eq_nil_of_le (by simp; omega)
    rw [hnil] at h
    refine ⟨?_, h⟩
    cases hr : Region.ready .any ops listed with
    | nil => rfl
    | cons j rs =>
      have hj : j ∈ Region.ready .any ops listed := by rw [hr]; simp
      obtain ⟨h0, o, ho, _⟩ := mem_ready.1 hj
      have hjl : j < ops.size := (Array.getElem?_eq_some_iff.1 ho).1
      rw [(hl j hjl).1] at h0
      simp at h0
      omega
  | succ fuel ih =>
    intro k listed a w hk hs hsz hl h
    have hkl : k < ops.size := by omega
    have hok : ops[k]? = some ops[k] := by simp [hkl]
    have hdrop : ops.toList.drop k = ops[k] :: ops.toList.drop (k + 1) := by
      rw [List.drop_eq_getElem_cons (by simpa using hkl)]
      simp
    rw [hdrop] at h
    refine ⟨fun hr => ?_, fun i hi => ?_⟩
    · have hmem : k ∈ Region.ready .any ops listed := by
        refine mem_ready.2 ⟨by rw [(hl k hkl).1]; simp, ops[k], hok, fun e he hb => ?_⟩
        have hlt := (depsOk_spec hE (i := k) (o := ops[k]) hok).1 e he hb
        rw [(hl e.on (by omega)).2]
        simpa using hlt
      rw [hr] at hmem
      cases hmem
    · obtain ⟨h0, o, ho, hafter⟩ := mem_ready.1 hi
      have hil : i < ops.size := (Array.getElem?_eq_some_iff.1 ho).1
      rw [(hl i hil).1] at h0
      have hge : k ≤ i := by simpa using h0
      have hik : i = k := by
        rcases Nat.lt_or_ge k i with hlt | h2
        · obtain ⟨e, he, hp⟩ := List.any_eq_true.1 (tailOk_spec hT ho (by omega) hlt)
          simp only [Bool.and_eq_true] at hp
          have he' : e ∈ o.after := by simpa using he
          have h1 := hafter e he' hp.1
          have h2 := (depsOk_spec hE ho).1 e he' hp.1
          rw [(hl e.on (by omega)).2] at h1
          have h3 := reachB_le hE 2 e.on k hp.2
          have h4 : e.on < k := by simpa using h1
          omega
        · omega
      subst hik
      have hK : ∀ a' w', wpList P ops Q (ops.toList.drop (i + 1)) a' w' → wpAny P .any ops Q fuel (listed.setIfInBounds i true) a' w' := by
        intro a' w' h'
        refine ih (i + 1) _ a' w' (by omega) (by omega) (by simpa using hsz) (fun j hj => ?_) h'
        by_cases hji : j = i
        · subst hji
          simp [hsz ▸ hj]
        · have := hl j hj
          rw [getD_set_ne true (Ne.symm hji), getD_set_ne false (Ne.symm hji), this.1, this.2]
          have : decide (j < i) = decide (j < i + 1) := by
            rcases Nat.lt_or_ge j i with h1 | h1
            · rw [decide_eq_true h1, decide_eq_true (by omega)]
            · rw [decide_eq_false (by omega), decide_eq_false (by omega)]
          exact ⟨this, this⟩
      unfold wpOp
      rw [ho]
      have hoe : o = ops[i] := by rw [hok] at ho; exact (Option.some.inj ho).symm
      subst hoe
      show if Region.wanted ops[i] (yielded ops a.tmps) = true then _ else _
      unfold wpList at h
      split
      · rename_i hw
        rw [if_pos hw] at h
        rcases h with h | h
        · exact .inl (Oper.wp_mono hK h)
        · exact .inr h
      · rename_i hw
        rw [if_neg hw] at h
        exact hK _ _ h

theorem wpAny_split (hB : anyOk ops = true) {k0 : Nat} (hk0 : k0 ≤ ops.size) (hT : tailOk ops k0 = true) (a0 : Act) (C : List Nat → (Nat → Value) → World → Prop)
    (hstep : ∀ i o js vals w, i < k0 → ops[i]? = some o → i ∉ js → (∀ j, waits ops o j = true → j ∈ js) → C js vals w →
      StepOk P ops o (fillL ops vals (List.range k0) a0) w fun v w' => C (js ++ [i]) (Vset vals i v) w')
    (hend : ∀ js vals w, (∀ i < k0, i ∈ js) → C js vals w → wpList P ops Q (ops.toList.drop k0) (fillL ops vals (List.range k0) a0) w) :
    ∀ (fuel : Nat) (js : List Nat) (listed : Array Bool) (vals : Nat → Value) (w : World), js.Nodup → (∀ j ∈ js, j < k0) →
      (∀ j < ops.size, listed.getD j true = decide (j ∈ js) ∧ listed.getD j false = decide (j ∈ js)) → listed.size = ops.size → js.length + fuel = ops.size → Closed ops js → C js vals w →
      wpAny P .any ops Q fuel listed (fillL ops vals js a0) w := by
  have hB' := hB
  simp only [anyOk, Bool.and_eq_true] at hB
  obtain ⟨hS, hD, hE⟩ := hB
  -- all of the first part are listed
  have fin : ∀ (fuel : Nat) (js : List Nat) (listed : Array Bool) (vals : Nat → Value) (w : World), js.Nodup → (∀ j ∈ js, j < k0) → (∀ i < k0, i ∈ js) →
      (∀ j < ops.size, listed.getD j true = decide (j ∈ js) ∧ listed.getD j false = decide (j ∈ js)) → listed.size = ops.size → js.length + fuel = ops.size → C js vals w → wpAny P .any ops Q fuel listed (fillL ops vals js a0) w := by
    intro fuel js listed vals w hn hlt hall hl hsz hc hC
    have hp : js.Perm (List.range k0) := (List.perm_ext_iff_of_nodup hn List.nodup_range).2 fun j => ⟨fun h => List.mem_range.2 (hlt j h), fun h => hall j (List.mem_range.1 h)⟩
    have hlen : js.length = k0 := by rw [hp.length_eq]; simp
    rw [fillL_perm hD vals hp hn (fun j hj => Nat.lt_of_lt_of_le (hlt j hj) hk0) a0]
    refine wpAny_tail hE hT fuel k0 listed _ w (Nat.le_refl _) (by omega) hsz (fun j hj => ?_) (hend js vals w hall hC)
    have e : decide (j ∈ js) = decide (j < k0) := by
      by_cases h : j < k0
      · rw [decide_eq_true h, decide_eq_true (hall j h)]
      · rw [decide_eq_false h, decide_eq_false (fun h' => h (hlt j h'))]
    rw [← e]
    exact hl j hj
  intro fuel
  induction fuel with
  | zero =>
    intro js listed vals w hn hlt hl hsz hc hcl hC
    refine fin 0 js listed vals w hn hlt (fun i hi => ?_) hl hsz hc hC
    apply Classical.byContradiction
    intro hni
    have h1 := nodup_len (i :: js) (List.range k0) (List.nodup_cons.2 ⟨hni, hn⟩) (fun j hj => by
      rcases List.mem_cons.1 hj with rfl | h
      · exact List.mem_range.2 hi
      · exact List.mem_range.2 (hlt j h))
    simp at h1
    omega
  | succ fuel ih =>
    intro js listed vals w hn hlt hl hsz hc hcl hC
    by_cases hall : ∀ i < k0, i ∈ js
    · exact fin (fuel + 1) js listed vals w hn hlt hall hl hsz hc hC
    have hlt' : ∀ j ∈ js, j < ops.size := fun j hj => Nat.lt_of_lt_of_le (hlt j hj) hk0
    refine ⟨fun hr => ?_, fun i hi => ?_⟩
    · exfalso
      apply hall
      intro i
      induction i using Nat.strongRecOn with
      | _ i ihi =>
        intro hi
        apply Classical.byContradiction
        intro hni
        have his : i < ops.size := by omega
        have hmem : i ∈ Region.ready .any ops listed := by
          refine mem_ready.2 ⟨by rw [(hl i his).1]; simpa using hni, ops[i], by simp [his], fun e he hb => ?_⟩
          have hlt := (depsOk_spec hE (i := i) (o := ops[i]) (by simp [his])).1 e he hb
          rw [(hl e.on (by omega)).2]
          simpa using ihi e.on hlt (by omega)
        rw [hr] at hmem
        cases hmem
    · obtain ⟨h0, o, ho, hafter⟩ := mem_ready.1 hi
      have hil : i < ops.size := (Array.getElem?_eq_some_iff.1 ho).1
      rw [(hl i hil).1] at h0
      have hni : i ∉ js := by simpa using h0
      have hdeps : ∀ e ∈ o.after, Region.binds .any e = true → e.on ∈ js := fun e he hb => by
        have h1 := hafter e he hb
        have hlt' := (depsOk_spec hE ho).1 e he hb
        rw [(hl e.on (by omega)).2] at h1
        simpa using h1
      have hik : i < k0 := by
        rcases Nat.lt_or_ge i k0 with h | h
        · exact h
        · exfalso
          apply hall
          intro j hj
          obtain ⟨e, he, hp⟩ := List.any_eq_true.1 (tailOk_spec hT ho h (show j < i by omega))
          simp only [Bool.and_eq_true] at hp
          exact reachB_mem hcl 2 e.on j (hdeps e (by simpa using he) hp.1) hp.2
      have hsel : ∀ cs b, o.op ≠ .select cs b := fun cs b => Region.noSelect_spec hS i o cs b ho
      obtain ⟨rest, hrest⟩ : ∃ rest, rest = (List.range k0).filter fun j => decide (j ∉ js) := ⟨_, rfl⟩
      have hperm : (js ++ rest).Perm (List.range k0) := by
        refine (List.perm_ext_iff_of_nodup ?_ List.nodup_range).2 fun j => ?_
        · rw [List.nodup_append]
          refine ⟨hn, by rw [hrest]; exact List.nodup_range.filter _, fun x hx y hy e => ?_⟩
          subst e
          rw [hrest] at hy
          simp at hy
          exact hy.2 hx
        · rw [List.mem_append, hrest]
          simp only [List.mem_filter, List.mem_range, decide_eq_true_eq]
          constructor
          · rintro (h | h)
            · exact hlt j h
            · exact h.1
          · intro h
            by_cases hj : j ∈ js
            · exact .inl hj
            · exact .inr ⟨h, hj⟩
      have hnd : (js ++ rest).Nodup := hperm.nodup_iff.2 List.nodup_range
      have hrlt : ∀ j ∈ js ++ rest, j < ops.size := fun j hj => Nat.lt_of_lt_of_le (List.mem_range.1 (hperm.mem_iff.1 hj)) hk0
      have hwhole : fillL ops vals (List.range k0) a0 = fillL ops vals rest (fillL ops vals js a0) := by
        rw [← fillL_perm hD vals hperm hnd hrlt a0, fillL_append]
      obtain ⟨he, hw⟩ := exec_fill (ops := ops) o hsel vals rest (fun j hj d hd hmem => by
        have hjr : j < k0 ∧ j ∉ js := by rw [hrest] at hj; simpa using hj
        obtain ⟨e, he, hb, heq⟩ := (depsOk_spec hE ho).2 j (by omega) d hd hmem
        exact hjr.2 (heq ▸ hdeps e he hb)) (fillL ops vals js a0)
      rw [← hwhole] at he hw
      have hwaits : ∀ j, waits ops o j = true → j ∈ js := fun j hj => by
        obtain ⟨e, he, hp⟩ := List.any_eq_true.1 hj
        simp only [Bool.and_eq_true] at hp
        exact reachB_mem hcl 2 e.on j (hdeps e (by simpa using he) hp.1) hp.2
      refine wpOp_of_step ho he hw (hstep i o js vals w hik ho hni hwaits hC) fun v w' hK => ?_
      have hdst : o.dst = dstOf ops i := by simp [dstOf, ho]
      have hnext : (fillL ops vals js a0).put o.dst v = fillL ops (Vset vals i v) (js ++ [i]) a0 := by
        rw [fillL_append, fillL_vset vals i v js hni, hdst]
        show _ = (fillL ops vals js a0).put (dstOf ops i) (Vset vals i v i)
        rw [Vset_same]
      rw [hnext]
      refine ih (js ++ [i]) (listed.setIfInBounds i true) (Vset vals i v) w' ?_ ?_ ?_ (by simpa using hsz) (by simp; omega) ?_ hK
      · rw [List.nodup_append]
        refine ⟨hn, by simp, fun x hx y hy e => ?_⟩
        simp at hy
        subst hy
        exact hni (e ▸ hx)
      · intro j hj
        rcases List.mem_append.1 hj with h | h
        · exact hlt j h
        · simp at h; omega
      · intro j hj
        by_cases hji : j = i
        · subst hji
          simp [hsz ▸ hj]
        · have := hl j hj
          rw [getD_set_ne true (Ne.symm hji), getD_set_ne false (Ne.symm hji)]
          simpa [hji] using this
      · intro j hj o' ho' e he hb
        rcases List.mem_append.1 hj with h | h
        · exact List.mem_append_left _ (hcl j h o' ho' e he hb)
        · simp at h
          subst h
          rw [ho] at ho'
          cases ho'
          exact List.mem_append_left _ (hdeps e he hb)

/-- **A REGION THAT DRAWS ITS ORDER, IN TWO PARTS**: the first 'k' operations by facts (F; D names the values that a fact speaks of beside its own); the others, which wait for all ahead of them, by the walk. -/
theorem wp_region_walk (k : Nat) {id : Nat} {l : List Oper} {a0 : Act} {w0 : World} (hm : P.follows .mixedOrders = true) (hB : anyOk l.toArray = true) (hk : decide (k ≤ l.length) = true) (hT : tailOk l.toArray k = true) (I : World → Prop) (Rel : World → World → Prop) (D : Nat → List Nat) (F : Nat → (Nat → Value) → World → Prop)
    (hD : ((List.range k).all fun i => match l[i]? with | none => true | some o => (D i).all fun d => waits l.toArray o d) = true)
    (hW : ∀ i vals w w', F i vals w → Rel w w' → F i vals w') (hV : ∀ i vals vals' w, vals' i = vals i → (∀ d ∈ D i, vals' d = vals d) → F i vals w → F i vals' w) (h0 : I w0.drew)
    (h : ∀ vals A, A = fillL l.toArray vals (List.range k) a0 →
      eachFrom (fun i o => ∀ w, (∀ j, waits l.toArray o j = true → F j vals w) → I w → StepOk P l.toArray o A w fun v w' => I w' ∧ Rel w w' ∧ ∀ vals', vals' i = v → (∀ d ∈ D i, vals' d = vals d) → F i vals' w') 0 (l.take k) ∧
      ∀ w, (∀ i < k, F i vals w) → I w → wpList P l.toArray Q (l.drop k) A w) :
    (Code.region id l.toArray true).wp P Q a0 w0 := by
  have hk' : k ≤ l.length := of_decide_eq_true hk
  have hDs : ∀ i o, i < k → l[i]? = some o → ∀ d ∈ D i, waits l.toArray o d = true := by
    intro i o hi ho d hd
    have h1 := List.all_eq_true.1 hD i (List.mem_range.2 hi)
    rw [ho] at h1
    exact List.all_eq_true.1 h1 d hd
  refine wp_region_any hm ?_
  have key := wpAny_split (P := P) (Q := Q) hB (k0 := k) (by simpa using hk') hT a0 (fun js vals w => I w ∧ ∀ j ∈ js, (∀ d ∈ D j, d ∈ js) ∧ F j vals w) ?_ ?_ l.toArray.size [] (Array.replicate l.toArray.size false) (fun _ => undef) w0.drew List.nodup_nil (by simp) (by intro j hj; have hj2 : j < l.length := (by simpa using hj); simp [hj2]) (by simp) (by simp) (fun j hj => by cases hj) ⟨h0, by simp⟩
  · exact key
  · intro i o js vals w hik ho hni hdeps hC
    have ho' : l[i]? = some o := by simpa using ho
    have h1 := eachFrom_spec (h vals _ rfl).1 i o (by rw [List.getElem?_take, if_pos hik]; exact ho') w (fun j hj => (hC.2 _ (hdeps j hj)).2) hC.1
    rw [Nat.zero_add] at h1
    have hdi : ∀ d ∈ D i, d ∈ js := fun d hd => hdeps d (hDs i o hik ho' d hd)
    have hdi' : ∀ d ∈ D i, d ≠ i := fun d hd e => hni (e ▸ hdi d hd)
    have mono : ∀ {v w'}, (I w' ∧ Rel w w' ∧ ∀ vals', vals' i = v → (∀ d ∈ D i, vals' d = vals d) → F i vals' w') → (I w' ∧ ∀ j ∈ js ++ [i], (∀ d ∈ D j, d ∈ js ++ [i]) ∧ F j (Vset vals i v) w') := by
      rintro v w' ⟨hI, hR, hFi⟩
      refine ⟨hI, fun j hj => ?_⟩
      by_cases hji : j = i
      · subst hji
        exact ⟨fun d hd => List.mem_append_left _ (hdi d hd), hFi _ (Vset_same _ _ _) (fun d hd => Vset_other _ _ (hdi' d hd))⟩
      · rcases List.mem_append.1 hj with h | h
        · obtain ⟨h2, h3⟩ := hC.2 j h
          exact ⟨fun d hd => List.mem_append_left _ (h2 d hd), hV j vals _ w' (Vset_other _ _ hji) (fun d hd => Vset_other _ _ (fun e => hni (e ▸ h2 d hd))) (hW _ _ _ _ h3 hR)⟩
        · simp at h; exact absurd h hji
    unfold StepOk at h1 ⊢
    split
    · rename_i hw
      rw [if_pos hw] at h1
      generalize (execOp (fillL l.toArray vals (List.range k) a0).eval o).run P w = r at h1 ⊢
      cases r with
      | ok n w' =>
        cases n <;> simp only [StepUpon] at h1 ⊢
        case value u => exact mono h1
        case skip => exact mono h1
        case enter f args => exact h1.mono fun e w'' he => by obtain ⟨v, rfl, hk⟩ := he; exact ⟨v, rfl, mono hk⟩
      | halt x w' => simp only [StepUpon] at h1
    · rename_i hw
      rw [if_neg hw] at h1
      exact mono h1
  · intro js vals w hall hC
    exact (h vals _ rfl).2 w (fun i hi => (hC.2 i (hall i hi)).2) hC.1
end
end Go.Proofs.Ytllloedhlcdbjaa.Kit
