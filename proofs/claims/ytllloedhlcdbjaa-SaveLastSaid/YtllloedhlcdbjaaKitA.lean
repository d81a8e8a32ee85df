/- A law for a region that draws its order: an invariant over what has been carried out, one obligation for each operation, whatever the order. No condition. -/
import Derived.Orders
import Derived.Still
import Derived.Deep.Draws
namespace Go.Proofs.Ytllloedhlcdbjaa.Kit
set_option linter.unusedVariables false
set_option linter.unusedSimpArgs false
open Go

variable {P : Program} {ops : Array Oper} {Q : Exit → Act → World → Prop}

def dstOf (ops : Array Oper) (j : Nat) : Option Tmp := (ops[j]?).bind (·.dst)

/-- The frame with the values of the operations 'js' in place. -/
def fillL (ops : Array Oper) (vals : Nat → Value) : List Nat → Act → Act
  | [], a => a
  | j :: js, a => fillL ops vals js (a.put (dstOf ops j) (vals j))

theorem fillL_append (vals : Nat → Value) (xs ys : List Nat) (a : Act) : fillL ops vals (xs ++ ys) a = fillL ops vals ys (fillL ops vals xs a) := by
  induction xs generalizing a with
  | nil => rfl
  | cons x xs ih => exact ih _

def Vset (v : Nat → Value) (i : Nat) (x : Value) : Nat → Value := fun j => if j = i then x else v j
theorem Vset_same (v : Nat → Value) (i : Nat) (x : Value) : Vset v i x i = x := by simp [Vset]
theorem Vset_other (v : Nat → Value) {i j : Nat} (x : Value) (h : j ≠ i) : Vset v i x j = v j := by simp [Vset, h]

theorem fillL_vset (vals : Nat → Value) (i : Nat) (x : Value) (js : List Nat) (h : i ∉ js) (a : Act) : fillL ops (Vset vals i x) js a = fillL ops vals js a := by
  induction js generalizing a with
  | nil => rfl
  | cons j js ih =>
    have hj : j ≠ i := fun e => h (by simp [e])
    have hr : i ∉ js := fun e => h (by simp [e])
    show fillL ops (Vset vals i x) js _ = fillL ops vals js _
    rw [Vset_other vals x hj]
    exact ih hr _

/-- Two operations write different temporaries (or none). -/
def dstsApart (ops : Array Oper) : Bool :=
  (List.range ops.size).all fun i => (List.range ops.size).all fun j => i == j || (match dstOf ops i with | some d => dstOf ops j != some d | none => true)
/-- Whoever writes what an operation looks at stands among those that it waits for; and it waits for earlier ones alone. -/
def depsOk (ops : Array Oper) : Bool :=
  (List.range ops.size).all fun i => match ops[i]? with
    | none => false
    | some o => (o.after.toList.all fun e => !Region.binds .any e || decide (e.on < i)) &&
        (List.range ops.size).all fun j => match dstOf ops j with
          | none => true
          | some d => !(o.looksAt ops).contains d || o.after.toList.any fun e => Region.binds .any e && e.on == j
def anyOk (ops : Array Oper) : Bool := Region.noSelect ops && (dstsApart ops && depsOk ops)

theorem dstsApart_spec (h : dstsApart ops = true) {i j : Nat} (hi : i < ops.size) (hj : j < ops.size) (hne : i ≠ j) : ∀ d, dstOf ops i = some d → dstOf ops j ≠ some d := by
  intro d hd
  unfold dstsApart at h
  have h1 := List.all_eq_true.1 h i (List.mem_range.2 hi)
  have h2 := List.all_eq_true.1 h1 j (List.mem_range.2 hj)
  rw [hd] at h2
  have : (i == j) = false := beq_eq_false_iff_ne.2 hne
  rw [this] at h2
  simpa using h2

theorem depsOk_spec (h : depsOk ops = true) {i : Nat} {o : Oper} (ho : ops[i]? = some o) :
    (∀ e ∈ o.after, Region.binds .any e = true → e.on < i) ∧ (∀ j < ops.size, ∀ d, dstOf ops j = some d → d ∈ o.looksAt ops → ∃ e ∈ o.after, Region.binds .any e = true ∧ e.on = j) := by
  have hlt : i < ops.size := (Array.getElem?_eq_some_iff.1 ho).1
  unfold depsOk at h
  have h1 := List.all_eq_true.1 h i (List.mem_range.2 hlt)
  rw [ho] at h1
  simp only [Bool.and_eq_true] at h1
  obtain ⟨ha, hb⟩ := h1
  refine ⟨fun e he hbind => ?_, fun j hj d hd hmem => ?_⟩
  · have := List.all_eq_true.1 ha e (by simpa using he)
    simpa [hbind] using this
  · have h2 := List.all_eq_true.1 hb j (List.mem_range.2 hj)
    rw [hd] at h2
    have hc : (o.looksAt ops).contains d = true := by simpa using hmem
    simp only [hc, Bool.not_true, Bool.false_or] at h2
    obtain ⟨e, he, hp⟩ := List.any_eq_true.1 h2
    simp only [Bool.and_eq_true, beq_iff_eq] at hp
    exact ⟨e, by simpa using he, hp.1, hp.2⟩

theorem fillL_put (hD : dstsApart ops = true) (vals : Nat → Value) (i : Nat) (hi : i < ops.size) (v : Value) : ∀ (js : List Nat), (∀ j ∈ js, j < ops.size) → i ∉ js → ∀ a : Act,
    fillL ops vals js (a.put (dstOf ops i) v) = (fillL ops vals js a).put (dstOf ops i) v
  | [], _, _, _ => rfl
  | j :: js, hlt, hn, a => by
    have hj : i ≠ j := fun e => hn (by simp [e])
    show fillL ops vals js ((a.put (dstOf ops i) v).put (dstOf ops j) (vals j)) = _
    rw [Act.put_comm a v (vals j) (dstsApart_spec hD hi (hlt j (by simp)) hj)]
    exact fillL_put hD vals i hi v js (fun k hk => hlt k (by simp [hk])) (fun e => hn (by simp [e])) _

theorem fillL_perm (hD : dstsApart ops = true) (vals : Nat → Value) {xs ys : List Nat} (hp : xs.Perm ys) : xs.Nodup → (∀ j ∈ xs, j < ops.size) → ∀ a : Act, fillL ops vals xs a = fillL ops vals ys a := by
  induction hp with
  | nil => intro _ _ a; rfl
  | cons x _ ih => intro hn hlt a; exact ih (List.nodup_cons.1 hn).2 (fun j hj => hlt j (by simp [hj])) _
  | swap x y l =>
    intro hn hlt a
    have hne : y ≠ x := fun e => (List.nodup_cons.1 hn).1 (by simp [e])
    show fillL ops vals l ((a.put (dstOf ops y) (vals y)).put (dstOf ops x) (vals x)) = fillL ops vals l ((a.put (dstOf ops x) (vals x)).put (dstOf ops y) (vals y))
    rw [Act.put_comm a (vals y) (vals x) (dstsApart_spec hD (hlt y (by simp)) (hlt x (by simp)) hne)]
  | trans h1 _ ih1 ih2 =>
    intro hn hlt a
    exact (ih1 hn hlt a).trans (ih2 (h1.nodup_iff.1 hn) (fun j hj => hlt j (h1.mem_iff.2 hj)) a)

/-- What the unlisted operations will write is nothing that this one looks at. -/
theorem exec_fill (o : Oper) (hs : ∀ cs b, o.op ≠ .select cs b) (vals : Nat → Value) : ∀ (js : List Nat), (∀ j ∈ js, ∀ d, dstOf ops j = some d → d ∉ o.looksAt ops) → ∀ a : Act,
    execOp (fillL ops vals js a).eval o = execOp a.eval o ∧ Region.wanted o (yielded ops (fillL ops vals js a).tmps) = Region.wanted o (yielded ops a.tmps)
  | [], _, _ => ⟨rfl, rfl⟩
  | j :: js, h, a => by
    obtain ⟨h1, h2⟩ := exec_fill o hs vals js (fun k hk => h k (by simp [hk])) (a.put (dstOf ops j) (vals j))
    have hj := h j (by simp)
    exact ⟨h1.trans (execOp_put o hs a _ _ hj), h2.trans (wanted_put o a _ _ hj)⟩

def StepUpon (P : Program) (K : Value → World → Prop) : Result Next → Prop
  | .ok (.value v) w' => K v w'
  | .ok .skip w' => K undef w'
  | .ok (.enter f args) w' => Calls P f args w' fun e w'' => ∃ v, e = .returned v ∧ K v w''
  | _ => False

/-- One operation, in the frame in which all values stand. -/
def StepOk (P : Program) (ops : Array Oper) (o : Oper) (A : Act) (w : World) (K : Value → World → Prop) : Prop :=
  if Region.wanted o (yielded ops A.tmps) = true then StepUpon P K ((execOp A.eval o).run P w) else K undef w

theorem wpOp_of_step {i : Nat} {o : Oper} {a A : Act} {w : World} {K : Value → World → Prop} {K' : Act → World → Prop} (ho : ops[i]? = some o)
    (he : execOp A.eval o = execOp a.eval o) (hw : Region.wanted o (yielded ops A.tmps) = Region.wanted o (yielded ops a.tmps))
    (h : StepOk P ops o A w K) (hK : ∀ v w', K v w' → K' (a.put o.dst v) w') : wpOp P ops Q i K' a w := by
  unfold StepOk at h
  rw [he, hw] at h
  unfold wpOp
  rw [ho]
  show if Region.wanted o (yielded ops a.tmps) = true then _ else _
  split
  · rename_i hwa
    rw [if_pos hwa] at h
    refine .inl ?_
    unfold Oper.wp
    generalize (execOp a.eval o).run P w = r at h
    cases r with
    | ok n w' =>
      cases n <;> simp only [StepUpon] at h <;> simp only [Oper.upon]
      case value v => exact hK _ _ h
      case skip => exact hK _ _ h
      case enter f args => exact h.mono fun e w'' he => by obtain ⟨v, rfl, hk⟩ := he; exact hK _ _ hk
    | halt x w' => simp only [StepUpon] at h
  · rename_i hwa
    rw [if_neg hwa] at h
    exact hK _ _ h

/-- Whatever they wait for stands among them, too. -/
def Closed (ops : Array Oper) (js : List Nat) : Prop := ∀ j ∈ js, ∀ o, ops[j]? = some o → ∀ e ∈ o.after, Region.binds .any e = true → e.on ∈ js
def reachB (ops : Array Oper) : Nat → Nat → Nat → Bool
  | 0, i, j => i == j
  | f + 1, i, j => i == j || (match ops[i]? with | some o => o.after.toList.any fun e => Region.binds .any e && reachB ops f e.on j | none => false)
theorem reachB_mem {js : List Nat} (h : Closed ops js) : ∀ (f i j : Nat), i ∈ js → reachB ops f i j = true → j ∈ js
  | 0, i, j, hi, hr => by simp [reachB] at hr; exact hr ▸ hi
  | f + 1, i, j, hi, hr => by
    simp only [reachB, Bool.or_eq_true, beq_iff_eq] at hr
    rcases hr with rfl | hr
    · exact hi
    · cases ho : ops[i]? with
      | none => rw [ho] at hr; cases hr
      | some o =>
        rw [ho] at hr
        obtain ⟨e, he, hp⟩ := List.any_eq_true.1 hr
        simp only [Bool.and_eq_true] at hp
        exact reachB_mem h f e.on j (h i hi o ho e (by simpa using he) hp.1) hp.2
/-- An operation waits for j: an edge, or up to three edges. -/
def waits (ops : Array Oper) (o : Oper) (j : Nat) : Bool := o.after.toList.any fun e => Region.binds .any e && reachB ops 2 e.on j

theorem nodup_len : ∀ (xs ys : List Nat), xs.Nodup → (∀ x ∈ xs, x ∈ ys) → xs.length ≤ ys.length
  | [], _, _, _ => Nat.zero_le _
  | x :: xs, ys, hn, hs => by
    have hx : x ∈ ys := hs x (by simp)
    have h1 := nodup_len xs (ys.erase x) (List.nodup_cons.1 hn).2 fun y hy => (List.mem_erase_of_ne (fun (e : y = x) => (List.nodup_cons.1 hn).1 (by rw [← e]; exact hy))).2 (hs y (by simp [hy]))
    rw [List.length_erase_of_mem hx] at h1
    have h2 : 0 < ys.length := List.length_pos_of_mem hx
    simp only [List.length_cons]
    omega

theorem wpAny_inv (hB : anyOk ops = true) (a0 : Act) (C : List Nat → (Nat → Value) → World → Prop)
    (hstep : ∀ i o js vals w, ops[i]? = some o → i ∉ js → (∀ j, waits ops o j = true → j ∈ js) → C js vals w →
      StepOk P ops o (fillL ops vals (List.range ops.size) a0) w fun v w' => C (js ++ [i]) (Vset vals i v) w')
    (hend : ∀ js vals w, (∀ i < ops.size, i ∈ js) → C js vals w → Q .normal (fillL ops vals (List.range ops.size) a0) w) :
    ∀ (fuel : Nat) (js : List Nat) (listed : Array Bool) (vals : Nat → Value) (w : World), js.Nodup → (∀ j ∈ js, j < ops.size) →
      (∀ j < ops.size, listed.getD j true = decide (j ∈ js) ∧ listed.getD j false = decide (j ∈ js)) → listed.size = ops.size → js.length + fuel = ops.size → Closed ops js → C js vals w →
      wpAny P .any ops Q fuel listed (fillL ops vals js a0) w := by
  simp only [anyOk, Bool.and_eq_true] at hB
  obtain ⟨hS, hD, hE⟩ := hB
  -- all are listed: the frame is the whole one
  have fin : ∀ (js : List Nat) (vals : Nat → Value) (w : World), js.Nodup → (∀ j ∈ js, j < ops.size) → (∀ i < ops.size, i ∈ js) → C js vals w → Q .normal (fillL ops vals js a0) w := by
    intro js vals w hn hlt hall hC
    have hp : js.Perm (List.range ops.size) := (List.perm_ext_iff_of_nodup hn List.nodup_range).2 fun j => ⟨fun h => List.mem_range.2 (hlt j h), fun h => hall j (List.mem_range.1 h)⟩
    rw [fillL_perm hD vals hp hn hlt a0]
    exact hend js vals w hall hC
  -- nothing is ready: all are listed
  have none_ready : ∀ (js : List Nat) (listed : Array Bool), (∀ j < ops.size, listed.getD j true = decide (j ∈ js) ∧ listed.getD j false = decide (j ∈ js)) → Region.ready .any ops listed = [] → ∀ i < ops.size, i ∈ js := by
    intro js listed hl hr i
    induction i using Nat.strongRecOn with
    | _ i ih =>
      intro hi
      apply Classical.byContradiction
      intro hni
      have hmem : i ∈ Region.ready .any ops listed := by
        refine mem_ready.2 ⟨by rw [(hl i hi).1]; simpa using hni, ops[i], by simp [hi], fun e he hb => ?_⟩
        have hlt := (depsOk_spec hE (i := i) (o := ops[i]) (by simp [hi])).1 e he hb
        rw [(hl e.on (by omega)).2]
        simpa using ih e.on hlt (by omega)
      rw [hr] at hmem
      cases hmem
  intro fuel
  induction fuel with
  | zero =>
    intro js listed vals w hn hlt hl hsz hc hcl hC
    have hall : ∀ i < ops.size, i ∈ js := by
      intro i hi
      apply Classical.byContradiction
      intro hni
      have h1 := nodup_len (i :: js) (List.range ops.size) (List.nodup_cons.2 ⟨hni, hn⟩) (fun j hj => by
        rcases List.mem_cons.1 hj with rfl | h
        · exact List.mem_range.2 hi
        · exact List.mem_range.2 (hlt j h))
      simp at h1
      omega
    refine ⟨?_, fin js vals w hn hlt hall hC⟩
    cases hr : Region.ready .any ops listed with
    | nil => rfl
    | cons j rs =>
      have hj : j ∈ Region.ready .any ops listed := by rw [hr]; simp
      obtain ⟨h0, o, ho, _⟩ := mem_ready.1 hj
      have hjl : j < ops.size := (Array.getElem?_eq_some_iff.1 ho).1
      rw [(hl j hjl).1] at h0
      exact absurd (hall j hjl) (by simpa using h0)
  | succ fuel ih =>
    intro js listed vals w hn hlt hl hsz hc hcl hC
    refine ⟨fun hr => fin js vals w hn hlt (none_ready js listed hl hr) hC, fun i hi => ?_⟩
    obtain ⟨h0, o, ho, hafter⟩ := mem_ready.1 hi
    have hil : i < ops.size := (Array.getElem?_eq_some_iff.1 ho).1
    rw [(hl i hil).1] at h0
    have hni : i ∉ js := by simpa using h0
    have hdeps : ∀ e ∈ o.after, Region.binds .any e = true → e.on ∈ js := fun e he hb => by
      have h1 := hafter e he hb
      have hlt' := (depsOk_spec hE ho).1 e he hb
      rw [(hl e.on (by omega)).2] at h1
      simpa using h1
    have hsel : ∀ cs b, o.op ≠ .select cs b := fun cs b => Region.noSelect_spec hS i o cs b ho
    -- the frame at hand and the whole one agree on what the operation looks at
    obtain ⟨rest, hrest⟩ : ∃ rest, rest = (List.range ops.size).filter fun j => decide (j ∉ js) := ⟨_, rfl⟩
    have hperm : (js ++ rest).Perm (List.range ops.size) := by
      refine (List.perm_ext_iff_of_nodup ?_ List.nodup_range).2 fun j => ?_
      · rw [List.nodup_append]
        refine ⟨hn, by rw [hrest]; exact List.nodup_range.filter _, fun x hx y hy e => ?_⟩
        subst e
        rw [hrest] at hy
        simp at hy
        exact hy.2 hx
      · rw [List.mem_append, hrest]
        simp only [List.mem_filter, List.mem_range, decide_eq_true_eq]
        constructor
        · rintro (h | h)
          · exact hlt j h
          · exact h.1
        · intro h
          by_cases hj : j ∈ js
          · exact .inl hj
          · exact .inr ⟨h, hj⟩
    have hnd : (js ++ rest).Nodup := hperm.nodup_iff.2 List.nodup_range
    have hall : ∀ j ∈ js ++ rest, j < ops.size := fun j hj => List.mem_range.1 (hperm.mem_iff.1 hj)
    have hwhole : fillL ops vals (List.range ops.size) a0 = fillL ops vals rest (fillL ops vals js a0) := by
      rw [← fillL_perm hD vals hperm hnd hall a0, fillL_append]
    obtain ⟨he, hw⟩ := exec_fill (ops := ops) o hsel vals rest (fun j hj d hd hmem => by
      have hjr : j < ops.size ∧ j ∉ js := by rw [hrest] at hj; simpa using hj
      obtain ⟨e, he, hb, heq⟩ := (depsOk_spec hE ho).2 j hjr.1 d hd hmem
      exact hjr.2 (heq ▸ hdeps e he hb)) (fillL ops vals js a0)
    rw [← hwhole] at he hw
    have hwaits : ∀ j, waits ops o j = true → j ∈ js := fun j hj => by
      obtain ⟨e, he, hp⟩ := List.any_eq_true.1 hj
      simp only [Bool.and_eq_true] at hp
      exact reachB_mem hcl 2 e.on j (hdeps e (by simpa using he) hp.1) hp.2
    refine wpOp_of_step ho he hw (hstep i o js vals w ho hni hwaits hC) fun v w' hK => ?_
    have hdst : o.dst = dstOf ops i := by simp [dstOf, ho]
    have hnext : (fillL ops vals js a0).put o.dst v = fillL ops (Vset vals i v) (js ++ [i]) a0 := by
      rw [fillL_append, fillL_vset vals i v js hni, hdst]
      show _ = (fillL ops vals js a0).put (dstOf ops i) (Vset vals i v i)
      rw [Vset_same]
    rw [hnext]
    refine ih (js ++ [i]) (listed.setIfInBounds i true) (Vset vals i v) w' ?_ ?_ ?_ (by simpa using hsz) (by simp; omega) ?_ hK
    · rw [List.nodup_append]
      refine ⟨hn, by simp, fun x hx y hy e => ?_⟩
      simp at hy
      subst hy
      exact hni (e ▸ hx)
    · intro j hj
      rcases List.mem_append.1 hj with h | h
      · exact hlt j h
      · simp at h; omega
    · intro j hj
      by_cases hji : j = i
      · subst hji
        simp [hsz ▸ hj]
      · have := hl j hj
        rw [getD_set_ne true (Ne.symm hji), getD_set_ne false (Ne.symm hji)]
        simpa [hji] using this
    · intro j hj o' ho' e he hb
      rcases List.mem_append.1 hj with h | h
      · exact List.mem_append_left _ (hcl j h o' ho' e he hb)
      · simp at h
        subst h
        rw [ho] at ho'
        cases ho'
        exact List.mem_append_left _ (hdeps e he hb)

/-- **A REGION THAT DRAWS ITS ORDER, BY AN INVARIANT.** -/
theorem wp_region_inv {id : Nat} {a0 : Act} {w0 : World} (hm : P.follows .mixedOrders = true) (hB : anyOk ops = true) (C : List Nat → (Nat → Value) → World → Prop)
    (h0 : C [] (fun _ => undef) w0.drew)
    (hstep : ∀ i o js vals w, ops[i]? = some o → i ∉ js → (∀ j, waits ops o j = true → j ∈ js) → C js vals w →
      StepOk P ops o (fillL ops vals (List.range ops.size) a0) w fun v w' => C (js ++ [i]) (Vset vals i v) w')
    (hend : ∀ js vals w, (∀ i < ops.size, i ∈ js) → C js vals w → Q .normal (fillL ops vals (List.range ops.size) a0) w) :
    (Code.region id ops true).wp P Q a0 w0 := by
  refine wp_region_any hm ?_
  have := wpAny_inv (P := P) (Q := Q) hB a0 C hstep hend ops.size [] (Array.replicate ops.size false) (fun _ => undef) w0.drew List.nodup_nil (by simp) (by intro j hj; simp [hj]) (by simp) (by simp) (fun j hj => by cases hj) h0
  exact this

/-- **THE SAME, BY FACTS: each operation has one fact on its value, which later steps keep.** -/
theorem wp_region_facts {id : Nat} {a0 : Act} {w0 : World} (hm : P.follows .mixedOrders = true) (hB : anyOk ops = true) (I : World → Prop) (Rel : World → World → Prop) (F : Nat → Value → World → Prop)
    (hF : ∀ i v w w', F i v w → Rel w w' → F i v w') (h0 : I w0.drew)
    (hstep : ∀ i o vals w, ops[i]? = some o → (∀ j, waits ops o j = true → F j (vals j) w) → I w →
      StepOk P ops o (fillL ops vals (List.range ops.size) a0) w fun v w' => I w' ∧ Rel w w' ∧ F i v w')
    (hend : ∀ vals w, (∀ i < ops.size, F i (vals i) w) → I w → Q .normal (fillL ops vals (List.range ops.size) a0) w) :
    (Code.region id ops true).wp P Q a0 w0 := by
  refine wp_region_inv hm hB (fun js vals w => I w ∧ ∀ j ∈ js, F j (vals j) w) ⟨h0, by simp⟩ ?_ ?_
  · intro i o js vals w ho hni hdeps hC
    have h1 := hstep i o vals w ho (fun j hj => hC.2 _ (hdeps j hj)) hC.1
    have mono : ∀ {v w'}, (I w' ∧ Rel w w' ∧ F i v w') → (I w' ∧ ∀ j ∈ js ++ [i], F j (Vset vals i v j) w') := by
      rintro v w' ⟨hI, hR, hFi⟩
      refine ⟨hI, fun j hj => ?_⟩
      by_cases hji : j = i
      · subst hji; rw [Vset_same]; exact hFi
      · rw [Vset_other vals v hji]
        rcases List.mem_append.1 hj with h | h
        · exact hF _ _ _ _ (hC.2 j h) hR
        · simp at h; exact absurd h hji
    unfold StepOk at h1 ⊢
    split
    · rename_i hw
      rw [if_pos hw] at h1
      generalize (execOp (fillL ops vals (List.range ops.size) a0).eval o).run P w = r at h1 ⊢
      cases r with
      | ok n w' =>
        cases n <;> simp only [StepUpon] at h1 ⊢
        case value u => exact mono h1
        case skip => exact mono h1
        case enter f args => exact h1.mono fun e w'' he => by obtain ⟨v, rfl, hk⟩ := he; exact ⟨v, rfl, mono hk⟩
      | halt x w' => simp only [StepUpon] at h1
    · rename_i hw
      rw [if_neg hw] at h1
      exact mono h1
  · intro js vals w hall hC
    exact hend vals w (fun i hi => hC.2 i (hall i hi)) hC.1

/-- Every operation of a list, numbered from k on. -/
def eachFrom (R : Nat → Oper → Prop) : Nat → List Oper → Prop
  | _, [] => True
  | k, o :: l => R k o ∧ eachFrom R (k + 1) l
theorem eachFrom_spec {R : Nat → Oper → Prop} : ∀ {l : List Oper} {k : Nat}, eachFrom R k l → ∀ i o, l[i]? = some o → R (k + i) o
  | [], _, _, i, o, h => by simp at h
  | x :: l, k, hR, 0, o, h => by simp at h; subst h; exact hR.1
  | x :: l, k, hR, i + 1, o, h => by
    have := eachFrom_spec hR.2 i o (by simpa using h)
    rwa [show k + 1 + i = k + (i + 1) from by omega] at this

/-- **THE SAME, EVERY VALUE BEING KNOWN AHEAD.** 'A': the frame in which all of them stand. -/
theorem wp_region_fix {id : Nat} {l : List Oper} {a0 A : Act} {w0 : World} (hm : P.follows .mixedOrders = true) (hB : anyOk l.toArray = true) (expect : Nat → Value) (C : List Nat → World → Prop)
    (hA : fillL l.toArray expect (List.range l.length) a0 = A)
    (h0 : C [] w0.drew)
    (hstep : eachFrom (fun i o => ∀ js w, i ∉ js → (∀ j, waits l.toArray o j = true → j ∈ js) → C js w → StepOk P l.toArray o A w fun v w' => v = expect i ∧ C (js ++ [i]) w') 0 l)
    (hend : ∀ js w, (∀ i < l.length, i ∈ js) → C js w → Q .normal A w) :
    (Code.region id l.toArray true).wp P Q a0 w0 := by
  have agree : ∀ (vals : Nat → Value) (js : List Nat), (∀ j ∈ js, vals j = expect j) → ∀ a, fillL l.toArray vals js a = fillL l.toArray expect js a := by
    intro vals js
    induction js with
    | nil => intro _ a; rfl
    | cons j js ih =>
      intro h a
      show fillL l.toArray vals js _ = fillL l.toArray expect js _
      rw [h j (by simp)]
      exact ih (fun k hk => h k (by simp [hk])) _
  have hB' := hB
  simp only [anyOk, Bool.and_eq_true] at hB'
  obtain ⟨hS, hD, hE⟩ := hB'
  refine wp_region_inv hm hB (fun js vals w => (∀ j ∈ js, vals j = expect j) ∧ js.Nodup ∧ (∀ j ∈ js, j < l.toArray.size) ∧ C js w) ⟨by simp, List.nodup_nil, by simp, h0⟩ ?_ ?_
  · intro i o js vals w ho hni hdeps hC
    have hil : i < l.toArray.size := (Array.getElem?_eq_some_iff.1 ho).1
    have h1 := eachFrom_spec hstep i o (by simpa using ho) js w (by simpa using hni) hdeps hC.2.2.2
    rw [Nat.zero_add] at h1
    -- the frame with 'vals' and the one with 'expect' agree on what the operation looks at
    have hsel : ∀ cs b, o.op ≠ .select cs b := fun cs b => Region.noSelect_spec hS i o cs b ho
    have whole : ∀ vs : Nat → Value, execOp (fillL l.toArray vs (List.range l.toArray.size) a0).eval o = execOp (fillL l.toArray vs js a0).eval o ∧
        Region.wanted o (yielded l.toArray (fillL l.toArray vs (List.range l.toArray.size) a0).tmps) = Region.wanted o (yielded l.toArray (fillL l.toArray vs js a0).tmps) := by
      intro vs
      obtain ⟨rest, hrest⟩ : ∃ rest, rest = (List.range l.toArray.size).filter fun j => decide (j ∉ js) := ⟨_, rfl⟩
      have hperm : (js ++ rest).Perm (List.range l.toArray.size) := by
        refine (List.perm_ext_iff_of_nodup ?_ List.nodup_range).2 fun j => ?_
        · rw [List.nodup_append]
          refine ⟨hC.2.1, by rw [hrest]; exact List.nodup_range.filter _, fun x hx y hy e => ?_⟩
          subst e
          rw [hrest] at hy
          simp at hy
          exact hy.2 hx
        · rw [List.mem_append, hrest]
          simp only [List.mem_filter, List.mem_range, decide_eq_true_eq]
          constructor
          · rintro (h | h)
            · exact hC.2.2.1 j h
            · exact h.1
          · intro h
            by_cases hj : j ∈ js
            · exact .inl hj
            · exact .inr ⟨h, hj⟩
      rw [← fillL_perm hD vs hperm (hperm.nodup_iff.2 List.nodup_range) (fun j hj => List.mem_range.1 (hperm.mem_iff.1 hj)) a0, fillL_append]
      exact exec_fill (ops := l.toArray) o hsel vs rest (fun j hj d hd hmem => by
        have hjr : j < l.toArray.size ∧ j ∉ js := by rw [hrest] at hj; simpa using hj
        obtain ⟨e, he, hb, heq⟩ := (depsOk_spec hE ho).2 j hjr.1 d hd hmem
        exact hjr.2 (heq ▸ hdeps e.on (List.any_eq_true.2 ⟨e, by simpa using he, by simp [hb, reachB]⟩))) _
    have ha := whole vals
    have hb := whole expect
    rw [agree vals js hC.1] at ha
    have hA' : fillL l.toArray expect (List.range l.toArray.size) a0 = A := by simpa using hA
    rw [hA'] at hb
    unfold StepOk at h1 ⊢
    rw [ha.1, ha.2, ← hb.1, ← hb.2]
    have mono : ∀ {v w'}, (v = expect i ∧ C (js ++ [i]) w') → ((∀ j ∈ js ++ [i], Vset vals i v j = expect j) ∧ (js ++ [i]).Nodup ∧ (∀ j ∈ js ++ [i], j < l.toArray.size) ∧ C (js ++ [i]) w') := by
      rintro v w' ⟨hv, hC'⟩
      refine ⟨fun j hj => ?_, ?_, fun j hj => ?_, hC'⟩
      · by_cases hji : j = i
        · subst hji; rw [Vset_same]; exact hv
        · rw [Vset_other vals v hji]
          rcases List.mem_append.1 hj with h | h
          · exact hC.1 j h
          · simp at h; exact absurd h hji
      · rw [List.nodup_append]
        refine ⟨hC.2.1, by simp, fun x hx y hy e => ?_⟩
        simp at hy
        subst hy
        exact hni (e ▸ hx)
      · rcases List.mem_append.1 hj with h | h
        · exact hC.2.2.1 j h
        · simp at h; omega
    split
    · rename_i hw
      rw [if_pos hw] at h1
      generalize (execOp A.eval o).run P w = r at h1 ⊢
      cases r with
      | ok n w' =>
        cases n <;> simp only [StepUpon] at h1 ⊢
        case value u => exact mono h1
        case skip => exact mono h1
        case enter f args => exact h1.mono fun e w'' he => by obtain ⟨v, rfl, hk⟩ := he; exact ⟨v, rfl, mono hk⟩
      | halt x w' => simp only [StepUpon] at h1
    · rename_i hw
      rw [if_neg hw] at h1
      exact mono h1
  · intro js vals w hall hC
    have hp : js.Perm (List.range l.toArray.size) := (List.perm_ext_iff_of_nodup hC.2.1 List.nodup_range).2 fun j => ⟨fun h => List.mem_range.2 (hC.2.2.1 j h), fun h => hall j (List.mem_range.1 h)⟩
    have e1 : fillL l.toArray vals (List.range l.toArray.size) a0 = A := by
      rw [← fillL_perm hD vals hp hC.2.1 hC.2.2.1 a0, agree vals js hC.1, fillL_perm hD expect hp hC.2.1 hC.2.2.1 a0]
      simpa using hA
    rw [e1]
    exact hend js w (fun i hi => hall i (by simpa using hi)) hC.2.2.2

/-- The same, the frame under a name of its own. -/
theorem wp_region_fixed {id : Nat} {l : List Oper} {a0 : Act} {w0 : World} (hm : P.follows .mixedOrders = true) (hB : anyOk l.toArray = true) (expect : Nat → Value) (C : List Nat → World → Prop)
    (h0 : C [] w0.drew)
    (h : ∀ A : Act, A = fillL l.toArray expect (List.range l.length) a0 →
      eachFrom (fun i o => ∀ js w, i ∉ js → (∀ j, waits l.toArray o j = true → j ∈ js) → C js w → StepOk P l.toArray o A w fun v w' => v = expect i ∧ C (js ++ [i]) w') 0 l ∧
      ∀ js w, (∀ i < l.length, i ∈ js) → C js w → Q .normal A w) :
    (Code.region id l.toArray true).wp P Q a0 w0 :=
  wp_region_fix hm hB expect C rfl h0 (h _ rfl).1 (h _ rfl).2

end Go.Proofs.Ytllloedhlcdbjaa.Kit
