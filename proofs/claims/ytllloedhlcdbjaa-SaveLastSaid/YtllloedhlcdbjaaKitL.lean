/- Inside a round of a range over a function: what was walked outside of rounds holds there, too. No condition. -/
import Derived.Test.YtllloedhlcdbjaaKitJ
import Derived.OrdersIn
import Derived.TacticsIn
import Derived.RangeFuncWrites
import Derived.RangeFuncCalls
namespace Go.Proofs.Ytllloedhlcdbjaa.Kit
set_option linter.unusedVariables false
set_option linter.unusedSimpArgs false
open Go Go.RowKit

abbrev FW (l : Nat) : Fence := Fence.wide.inRound l
section
variable {P : Program} {ops : Array Oper} {Q : Exit → Act → World → Prop} {a : Act} {w : World} {o : Oper} {rr n : Nat}
theorem rowsIn_w {row : String} {args : Array Value} {R : Value → World → Prop} (h : Rows P row args w R) : RowsIn (FW rr) n P row args w R :=
  fun c cs _ => let ⟨v, w', r, s⟩ := h c cs; ⟨v, w', r, stepsIn_wide.2 s⟩
theorem callsIn_w {f : FuncId} {args : Array Value} {R : Ending → World → Prop} (h : Calls P f args w R) : CallsIn (FW rr) n P f args w R := CallsIn.inRound rr (callsIn_wide.2 h)
theorem uponIn_of {next next' : Act → World → Prop} (hn : ∀ a w, next a w → next' a w) {r : Result Next} (h : o.upon P a next Q r) : o.uponIn (FW rr) n P a next' Q r := by
  cases r with
  | ok x w' =>
    cases x <;> simp only [Oper.upon] at h <;> simp only [Oper.uponIn]
    case value v => exact hn _ _ h
    case skip => exact hn _ _ h
    case defer d => exact hn _ _ h
    case enter f args => exact ⟨fun e => by simp [Fence.wide] at e, callsIn_w (h.mono fun e w'' he => by cases e <;> first | exact hn _ _ he | exact he)⟩
    case row row args => exact ⟨fun e => by simp [Fence.wide] at e, rowsIn_w (Rows.mono h fun _ _ he => hn _ _ he)⟩
  | halt x w' => cases x <;> simp only [Oper.upon] at h <;> simp only [Oper.uponIn] <;> exact h
/-- no deferred call -/
def noDefer (o : Oper) : Bool := match o.op with | .defer _ => false | _ => true
theorem noDefer_ne (h : noDefer o = true) : ∀ c, o.op ≠ .defer c := fun c e => by simp [noDefer, e] at h
theorem wpListIn_of (hL : ¬ LetsOut Q) : ∀ (l : List Oper) (a : Act) (w : World), l.all noDefer = true → wpList P ops Q l a w → wpListIn (FW rr) n P ops Q l a w
  | [], _, _, _, h => h
  | o :: l, a, w, hd, h => by
    rw [List.all_cons, Bool.and_eq_true] at hd
    unfold wpList at h
    unfold wpListIn
    split
    · rename_i hw
      rw [if_pos hw] at h
      refine ⟨fun _ _ => trivial, ?_⟩
      rw [show (FW rr).round = some rr from rfl, Oper.semAt_eq (some rr) a.eval o (noDefer_ne hd.1)]
      exact uponIn_of (fun a w => wpListIn_of hL l a w hd.2) (h.resolve_right fun e => hL e.2)
    · rename_i hw
      rw [if_neg hw] at h
      exact ⟨fun _ _ => trivial, wpListIn_of hL l _ _ hd.2 h⟩
/-- a region in a round, by its walk outside of rounds -/
theorem inRegion {id : Nat} {l : List Oper} (hL : ¬ LetsOut Q) (hd : l.all noDefer = true) (h : wpList P l.toArray Q l a w) : (Code.region id l.toArray false).wpIn (FW rr) n P Q a w :=
  wpIn_region_lit (wpListIn_of hL l a w hd h)
theorem wpOpIn_of_step {i : Nat} {A : Act} {K : Value → World → Prop} {K' : Act → World → Prop} (ho : ops[i]? = some o) (hd : noDefer o = true)
    (he : execOp A.eval o = execOp a.eval o) (hw : Region.wanted o (yielded ops A.tmps) = Region.wanted o (yielded ops a.tmps))
    (h : StepOk P ops o A w K) (hK : ∀ v w', K v w' → K' (a.put o.dst v) w') : wpOpIn (FW rr) n P ops Q i K' a w := by
  unfold StepOk at h
  rw [he, hw] at h
  unfold wpOpIn
  rw [ho]
  show if Region.wanted o (yielded ops a.tmps) = true then _ else _
  split
  · rename_i hwa
    rw [if_pos hwa] at h
    refine ⟨fun _ _ => trivial, ?_⟩
    rw [show (FW rr).round = some rr from rfl, Oper.semAt_eq (some rr) a.eval o (noDefer_ne hd)]
    generalize (execOp a.eval o).run P w = r at h
    cases r with
    | ok n w' =>
      cases n <;> simp only [StepUpon] at h <;> simp only [Oper.uponIn]
      case value v => exact hK _ _ h
      case skip => exact hK _ _ h
      case enter f args => exact ⟨fun e => by simp [Fence.wide] at e, callsIn_w (h.mono fun e w'' he => by obtain ⟨v, rfl, hk⟩ := he; exact hK _ _ hk)⟩
    | halt x w' => simp only [StepUpon] at h
  · rename_i hwa
    rw [if_neg hwa] at h
    exact ⟨fun _ _ => trivial, hK _ _ h⟩

theorem wpAnyIn_inv (hN : ops.toList.all noDefer = true) (hB : anyOk ops = true) (a0 : Act) (C : List Nat → (Nat → Value) → World → Prop)
    (hstep : ∀ i o js vals w, ops[i]? = some o → i ∉ js → (∀ j, waits ops o j = true → j ∈ js) → C js vals w →
      StepOk P ops o (fillL ops vals (List.range ops.size) a0) w fun v w' => C (js ++ [i]) (Vset vals i v) w')
    (hend : ∀ js vals w, (∀ i < ops.size, i ∈ js) → C js vals w → Q .normal (fillL ops vals (List.range ops.size) a0) w) :
    ∀ (fuel : Nat) (js : List Nat) (listed : Array Bool) (vals : Nat → Value) (w : World), js.Nodup → (∀ j ∈ js, j < ops.size) →
      (∀ j < ops.size, listed.getD j true = decide (j ∈ js) ∧ listed.getD j false = decide (j ∈ js)) → listed.size = ops.size → js.length + fuel = ops.size → Closed ops js → C js vals w →
      wpAnyIn (FW rr) n P .any ops Q fuel listed (fillL ops vals js a0) w := by
  simp only [anyOk, Bool.and_eq_true] at hB
  obtain ⟨hS, hD, hE⟩ := hB
  -- all are listed: the frame is the whole one
  have fin : ∀ (js : List Nat) (vals : Nat → Value) (w : World), js.Nodup → (∀ j ∈ js, j < ops.size) → (∀ i < ops.size, i ∈ js) → C js vals w → Q .normal (fillL ops vals js a0) w := by
    intro js vals w hn hlt hall hC
    have hp : js.Perm (List.range ops.size) := (List.perm_ext_iff_of_nodup hn List.nodup_range).2 fun j => ⟨fun h => List.mem_range.2 (hlt j h), fun h => hall j (List.mem_range.1 h)⟩
    rw [fillL_perm hD vals hp hn hlt a0]
    exact hend js vals w hall hC
  -- nothing is ready: all are listed
  have none_ready : ∀ (js : List Nat) (listed : Array Bool), (∀ j < ops.size, listed.getD j true = decide (j ∈ js) ∧ listed.getD j false = decide (j ∈ js)) → Region.ready .any ops listed = [] → ∀ i < ops.size, i ∈ js := by
    intro js listed hl hr i
    induction i using Nat.strongRecOn with
    | _ i ih =>
      intro hi
      apply Classical.byContradiction
      intro hni
      have hmem : i ∈ Region.ready .any ops listed := by
        refine mem_ready.2 ⟨by rw [(hl i hi).1]; simpa using hni, ops[i], by simp [hi], fun e he hb => ?_⟩
        have hlt := (depsOk_spec hE (i := i) (o := ops[i]) (by simp [hi])).1 e he hb
        rw [(hl e.on (by omega)).2]
        simpa using ih e.on hlt (by omega)
      rw [hr] at hmem
      cases hmem
  intro fuel
  induction fuel with
  | zero =>
    intro js listed vals w hn hlt hl hsz hc hcl hC
    have hall : ∀ i < ops.size, i ∈ js := by
      intro i hi
      apply Classical.byContradiction
      intro hni
      have h1 := nodup_len (i :: js) (List.range ops.size) (List.nodup_cons.2 ⟨hni, hn⟩) (fun j hj => by
        rcases List.mem_cons.1 hj with rfl | h
        · exact List.mem_range.2 hi
        · exact List.mem_range.2 (hlt j h))
      simp at h1
      omega
    refine ⟨?_, fin js vals w hn hlt hall hC⟩
    cases hr : Region.ready .any ops listed with
    | nil => rfl
    | cons j rs =>
      have hj : j ∈ Region.ready .any ops listed := by rw [hr]; simp
      obtain ⟨h0, o, ho, _⟩ := mem_ready.1 hj
      have hjl : j < ops.size := (Array.getElem?_eq_some_iff.1 ho).1
      rw [(hl j hjl).1] at h0
      exact absurd (hall j hjl) (by simpa using h0)
  | succ fuel ih =>
    intro js listed vals w hn hlt hl hsz hc hcl hC
    refine ⟨fun hr => fin js vals w hn hlt (none_ready js listed hl hr) hC, fun i hi => ?_⟩
    obtain ⟨h0, o, ho, hafter⟩ := mem_ready.1 hi
    have hil : i < ops.size := (Array.getElem?_eq_some_iff.1 ho).1
    rw [(hl i hil).1] at h0
    have hni : i ∉ js := by simpa using h0
    have hdeps : ∀ e ∈ o.after, Region.binds .any e = true → e.on ∈ js := fun e he hb => by
      have h1 := hafter e he hb
      have hlt' := (depsOk_spec hE ho).1 e he hb
      rw [(hl e.on (by omega)).2] at h1
      simpa using h1
    have hsel : ∀ cs b, o.op ≠ .select cs b := fun cs b => Region.noSelect_spec hS i o cs b ho
    -- the frame at hand and the whole one agree on what the operation looks at
    obtain ⟨rest, hrest⟩ : ∃ rest, rest = (List.range ops.size).filter fun j => decide (j ∉ js) := ⟨_, rfl⟩
    have hperm : (js ++ rest).Perm (List.range ops.size) := by
      refine (List.perm_ext_iff_of_nodup ?_ List.nodup_range).2 fun j => ?_
      · rw [List.nodup_append]
        refine ⟨hn, by rw [hrest]; exact List.nodup_range.filter _, fun x hx y hy e => ?_⟩
        subst e
        rw [hrest] at hy
        simp at hy
        exact hy.2 hx
      · rw [List.mem_append, hrest]
        simp only [List.mem_filter, List.mem_range, decide_eq_true_eq]
        constructor
        · rintro (h | h)
          · exact hlt j h
          · exact h.1
        · intro h
          by_cases hj : j ∈ js
          · exact .inl hj
          · exact .inr ⟨h, hj⟩
    have hnd : (js ++ rest).Nodup := hperm.nodup_iff.2 List.nodup_range
    have hall : ∀ j ∈ js ++ rest, j < ops.size := fun j hj => List.mem_range.1 (hperm.mem_iff.1 hj)
    have hwhole : fillL ops vals (List.range ops.size) a0 = fillL ops vals rest (fillL ops vals js a0) := by
      rw [← fillL_perm hD vals hperm hnd hall a0, fillL_append]
    obtain ⟨he, hw⟩ := exec_fill (ops := ops) o hsel vals rest (fun j hj d hd hmem => by
      have hjr : j < ops.size ∧ j ∉ js := by rw [hrest] at hj; simpa using hj
      obtain ⟨e, he, hb, heq⟩ := (depsOk_spec hE ho).2 j hjr.1 d hd hmem
      exact hjr.2 (heq ▸ hdeps e he hb)) (fillL ops vals js a0)
    rw [← hwhole] at he hw
    have hwaits : ∀ j, waits ops o j = true → j ∈ js := fun j hj => by
      obtain ⟨e, he, hp⟩ := List.any_eq_true.1 hj
      simp only [Bool.and_eq_true] at hp
      exact reachB_mem hcl 2 e.on j (hdeps e (by simpa using he) hp.1) hp.2
    refine wpOpIn_of_step ho (List.all_eq_true.1 hN o (Array.mem_toList_iff.2 (Array.mem_of_getElem? ho))) he hw (hstep i o js vals w ho hni hwaits hC) fun v w' hK => ?_
    have hdst : o.dst = dstOf ops i := by simp [dstOf, ho]
    have hnext : (fillL ops vals js a0).put o.dst v = fillL ops (Vset vals i v) (js ++ [i]) a0 := by
      rw [fillL_append, fillL_vset vals i v js hni, hdst]
      show _ = (fillL ops vals js a0).put (dstOf ops i) (Vset vals i v i)
      rw [Vset_same]
    rw [hnext]
    refine ih (js ++ [i]) (listed.setIfInBounds i true) (Vset vals i v) w' ?_ ?_ ?_ (by simpa using hsz) (by simp; omega) ?_ hK
    · rw [List.nodup_append]
      refine ⟨hn, by simp, fun x hx y hy e => ?_⟩
      simp at hy
      subst hy
      exact hni (e ▸ hx)
    · intro j hj
      rcases List.mem_append.1 hj with h | h
      · exact hlt j h
      · simp at h; omega
    · intro j hj
      by_cases hji : j = i
      · subst hji
        simp [hsz ▸ hj]
      · have := hl j hj
        rw [getD_set_ne true (Ne.symm hji), getD_set_ne false (Ne.symm hji)]
        simpa [hji] using this
    · intro j hj o' ho' e he hb
      rcases List.mem_append.1 hj with h | h
      · exact List.mem_append_left _ (hcl j h o' ho' e he hb)
      · simp at h
        subst h
        rw [ho] at ho'
        cases ho'
        exact List.mem_append_left _ (hdeps e he hb)

theorem wpIn_region_inv (hN : ops.toList.all noDefer = true) {id : Nat} {a0 : Act} {w0 : World} (hm : P.follows .mixedOrders = true) (hB : anyOk ops = true) (C : List Nat → (Nat → Value) → World → Prop)
    (h0 : C [] (fun _ => undef) w0.drew)
    (hstep : ∀ i o js vals w, ops[i]? = some o → i ∉ js → (∀ j, waits ops o j = true → j ∈ js) → C js vals w →
      StepOk P ops o (fillL ops vals (List.range ops.size) a0) w fun v w' => C (js ++ [i]) (Vset vals i v) w')
    (hend : ∀ js vals w, (∀ i < ops.size, i ∈ js) → C js vals w → Q .normal (fillL ops vals (List.range ops.size) a0) w) :
    (Code.region id ops true).wpIn (FW rr) n P Q a0 w0 := by
  refine wpIn_region_any hm ?_
  have := wpAnyIn_inv (P := P) (Q := Q) (rr := rr) (n := n) hN hB a0 C hstep hend ops.size [] (Array.replicate ops.size false) (fun _ => undef) w0.drew List.nodup_nil (by simp) (by intro j hj; simp [hj]) (by simp) (by simp) (fun j hj => by cases hj) h0
  exact this

/-- **A DRAWING REGION IN WHICH OPERATION s STORES**: the facts turn with the store; what doesn't stand ahead of the store looks at no world. -/
theorem region_putIn {l : List Oper} (hN : l.all noDefer = true) (s : Nat) (os : Oper) (fs fs' : List Fact) {id : Nat} {a0 : Act} {W0 w0 : World} {bs bs' : Res} (HO : Mine W0 w0 bs) (hm : P.follows .mixedOrders = true) (hB : anyOk l.toArray = true) (hso : l[s]? = some os)
    (hs : ∀ p ∈ fs, Stays p) (hs' : ∀ p ∈ fs', Stays p)
    (h : ∀ vals A, A = fillL l.toArray vals (List.range l.length) a0 →
      eachFrom (Owes P l s os W0 w0 bs bs' fs fs' vals A) 0 l ∧
      ∀ w, (∀ i < l.length, Facts fs' i (vals i) w) → Mine W0 w bs' → Q .normal A w) :
    (Code.region id l.toArray true).wpIn (FW rr) n P Q a0 w0 := by
  refine wpIn_region_inv (by simpa using hN) hm hB (fun js vals w => (s ∉ js ∧ (∀ j ∈ js, Facts fs j (vals j) w) ∧ Mine W0 w bs ∧ Below w0.heap.size w0 w) ∨
    (s ∈ js ∧ (∀ j ∈ js, Facts fs' j (vals j) w) ∧ Mine W0 w bs' ∧ ∀ j, waits l.toArray os j = true → j ∈ js)) ?_ ?_ ?_
  · exact .inl ⟨by simp, by simp, HO.drew, (Below.refl _ _).drew⟩
  · intro i o js vals w ho hni hdeps hC
    have hA := h vals _ rfl
    have hi := eachFrom_spec hA.1 i o (by simpa using ho)
    rw [Nat.zero_add] at hi
    have hsz : l.toArray.size = l.length := by simp
    rw [hsz]
    unfold Owes at hi
    by_cases his : i = s
    · subst his
      rw [if_pos rfl] at hi
      rcases hC with ⟨h1, h2, h3, h4⟩ | ⟨h1, _⟩
      · have e : o = os := by
          have : l[i]? = some o := by simpa using ho
          rw [hso] at this
          exact (Option.some.inj this).symm
        subst e
        refine (hi w (fun j hj => h2 j (hdeps j hj)) h3 h4).mono fun v w' ⟨k1, k3, k4⟩ => .inr ⟨by simp, fun j hj => ?_, k1, fun j hj => List.mem_append_left _ (hdeps j hj)⟩
        rcases List.mem_append.1 hj with hj | hj
        · have hne : j ≠ i := fun e => hni (e ▸ hj)
          rw [Vset_other _ _ hne]
          exact k4 j hne (h2 j hj)
        · rw [List.mem_singleton.1 hj, Vset_same]
          exact k3
      · exact absurd h1 hni
    · rw [if_neg his] at hi
      rcases hC with ⟨h1, h2, h3, h4⟩ | ⟨h1, h2, h3, h5⟩
      · have key : ∀ {v w'}, Below w.heap.size w w' → Facts fs i v w' → (s ∉ js ++ [i] ∧ (∀ j ∈ js ++ [i], Facts fs j (Vset vals i v j) w') ∧ Mine W0 w' bs ∧ Below w0.heap.size w0 w') := by
          intro v w' hb hf
          refine ⟨by simp [h1]; exact fun e => his e.symm, fun j hj => ?_, h3.call hb, h4.trans (hb.mono h4.size)⟩
          rcases List.mem_append.1 hj with hj | hj
          · have hne : j ≠ i := fun e => hni (e ▸ hj)
            rw [Vset_other _ _ hne]
            exact Facts.stays hs j _ _ _ (h2 j hj) hb
          · rw [List.mem_singleton.1 hj, Vset_same]
            exact hf
        by_cases hw : waits l.toArray os i = true
        · rw [if_pos hw] at hi
          exact (hi w (fun j hj => h2 j (hdeps j hj)) h3 h4).mono fun v w' ⟨k1, k2⟩ => .inl (key k1 k2)
        · rw [if_neg hw] at hi
          exact (hi w (fun j hj => .inl (h2 j (hdeps j hj)))).mono fun v w' ⟨k1, k2, k3⟩ => by subst k1; exact .inl (key (Below.refl _ _) k2)
      · have hw : ¬ waits l.toArray os i = true := fun e => hni (h5 i e)
        rw [if_neg hw] at hi
        refine (hi w (fun j hj => .inr (h2 j (hdeps j hj)))).mono fun v w' ⟨k1, k2, k3⟩ => ?_
        subst k1
        refine .inr ⟨by simp [h1], fun j hj => ?_, h3, fun j hj => List.mem_append_left _ (h5 j hj)⟩
        rcases List.mem_append.1 hj with hj | hj
        · have hne : j ≠ i := fun e => hni (e ▸ hj)
          rw [Vset_other _ _ hne]
          exact h2 j hj
        · rw [List.mem_singleton.1 hj, Vset_same]
          exact k3
  · intro js vals w hall hC
    have hsz : l.toArray.size = l.length := by simp
    rw [hsz]
    have hA := h vals _ rfl
    have hsl : s < l.length := (List.getElem?_eq_some_iff.1 hso).1
    rcases hC with ⟨h1, _⟩ | ⟨h1, h2, h3, _⟩
    · exact absurd (hall s (by simpa using hsl)) h1
    · exact hA.2 w (fun i hi => h2 i (hall i (by simpa using hi))) h3


/-- the call's own blocks abide what the machine itself does -/
theorem mine_own {β : Type} {B : Nat} {W0 : World} (bs : β → Res) (hc : ∀ s, ∀ p ∈ bs s, ∀ o, p.2 o → o.isCells = true) (hB : W0.heap.size ≤ B) : OwnFrom B (fun s W => Mine W0 W (bs s)) := by
  intro s W W' row hM hg hr
  refine ⟨hM.below.grown hg hM.below.size (fun k e => Nat.le_trans hB (hr k e).1), hM.nodup, fun p hp => ?_⟩
  obtain ⟨h1, o, h2, h3⟩ := hM.held p hp
  refine ⟨h1, o, (hg.block p.1 (hM.lt hp) (fun e => ?_)).trans h2, h3⟩
  obtain ⟨_, o', ho', hn⟩ := hr p.1 e.symm
  rw [h2] at ho'
  cases ho'
  rw [hc s p hp o h3] at hn
  cases hn
theorem cells_isCells {cs : List Value} {T : TypeId} {o : Obj} (h : IsCells cs T o) : o.isCells = true := by rw [show o = _ from h]; rfl
end
end Go.Proofs.Ytllloedhlcdbjaa.Kit
