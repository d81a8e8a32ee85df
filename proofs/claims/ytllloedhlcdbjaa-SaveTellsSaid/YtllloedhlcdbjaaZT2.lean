/- T: texts run together by shake.py: KitL SvA SvB MoD. -/
import Derived.ArgAppend
import Derived.Below
import Derived.BigQuiet
import Derived.Deep.AppendLies
import Derived.Deep.CutBlock
import Derived.Deep.DeepCutAuto
import Derived.Deep.Draws
import Derived.Deep.LoopGhost
import Derived.Deep.OwnRows
import Derived.Deep.Quiet
import Derived.Deep.QuietTactic
import Derived.Deep.RegionHeld3
import Derived.Ground.GgzProg
import Derived.Ground.SlgmProg
import Derived.KernelRfl
import Derived.Laws.AppendOwn
import Derived.Laws.AppendOwnNone
import Derived.Laws.BitsLemmas
import Derived.Laws.BytesArg
import Derived.Laws.CopyRow
import Derived.Laws.IdiomCopy
import Derived.Laws.IdiomStrings
import Derived.Laws.MakeOwn
import Derived.Laws.OwnMore
import Derived.Laws.Rows
import Derived.Laws.Slices
import Derived.Laws.StructEq
import Derived.Lib.AppendStr
import Derived.Lib.ConvBytes
import Derived.Lib.Hide
import Derived.Lib.SlKeysI
import Derived.LoopIn
import Derived.LoopNIn
import Derived.MapKept
import Derived.Maps.AppendAt
import Derived.Maps.Own
import Derived.Orders
import Derived.OrdersHeld
import Derived.OrdersIn
import Derived.Outline
import Derived.OwnWalk
import Derived.OwnWalkIn
import Derived.RangeFuncBound
import Derived.RangeFuncBox
import Derived.RangeFuncCalls
import Derived.RangeFuncLeaves
import Derived.RangeFuncNested
import Derived.RangeFuncWrites
import Derived.RowKit
import Derived.RowKit3
import Derived.Shelf.Abstract
import Derived.Shelf.RegionOpen
import Derived.Shelf.SlIterI.Nil
import Derived.Shelf.Slices.Turned
import Derived.Shelf.SortM.Plain
import Derived.Shelf.SortM.SortNone
import Derived.Shelf.Strconv.Itoa0
import Derived.Still
import Derived.Tactics
import Derived.TacticsIn
import Derived.TacticsInMore
import Derived.Test.YtllloedhlcdbjaaProg
import Derived.WalkKit
import Derived.WalkLawsBesides
import Derived.WalkSpells
import Derived.WideLaws
import Derived.Test.YtllloedhlcdbjaaZT1
section
namespace Go.Proofs.Ytllloedhlcdbjaa.Kit
set_option linter.unusedVariables false
set_option linter.unusedSimpArgs false
open Go Go.RowKit
abbrev FW (l : Nat) : Fence := Fence.wide.inRound l
section
variable {P : Program} {ops : Array Oper} {Q : Exit → Act → World → Prop} {a : Act} {w : World} {o : Oper} {rr n : Nat}
theorem rowsIn_w {row : String} {args : Array Value} {R : Value → World → Prop} (h : Rows P row args w R) : RowsIn (FW rr) n P row args w R :=
  fun c cs _ => let ⟨v, w', r, s⟩ := h c cs; ⟨v, w', r, stepsIn_wide.2 s⟩
theorem callsIn_w {f : FuncId} {args : Array Value} {R : Ending → World → Prop} (h : Calls P f args w R) : CallsIn (FW rr) n P f args w R := CallsIn.inRound rr (callsIn_wide.2 h)
theorem uponIn_of {next next' : Act → World → Prop} (hn : ∀ a w, next a w → next' a w) {r : Result Next} (h : o.upon P a next Q r) : o.uponIn (FW rr) n P a next' Q r := by
  cases r with
  | ok x w' =>
    cases x <;> simp only [Oper.upon] at h <;> simp only [Oper.uponIn]
    case value v => exact hn _ _ h
    case skip => exact hn _ _ h
    case defer d => exact hn _ _ h
    case enter f args => exact ⟨fun e => by simp [Fence.wide] at e, callsIn_w (h.mono fun e w'' he => by cases e <;> first | exact hn _ _ he | exact he)⟩
    case row row args => exact ⟨fun e => by simp [Fence.wide] at e, rowsIn_w (Rows.mono h fun _ _ he => hn _ _ he)⟩
  | halt x w' => cases x <;> simp only [Oper.upon] at h <;> simp only [Oper.uponIn] <;> exact h
def noDefer (o : Oper) : Bool := match o.op with | .defer _ => false | _ => true
theorem noDefer_ne (h : noDefer o = true) : ∀ c, o.op ≠ .defer c := fun c e => by simp [noDefer, e] at h
theorem wpListIn_of (hL : ¬ LetsOut Q) : ∀ (l : List Oper) (a : Act) (w : World), l.all noDefer = true → wpList P ops Q l a w → wpListIn (FW rr) n P ops Q l a w
  | [], _, _, _, h => h
  | o :: l, a, w, hd, h => by
    rw [List.all_cons, Bool.and_eq_true] at hd
    unfold wpList at h
    unfold wpListIn
    split
    · rename_i hw
      rw [if_pos hw] at h
      refine ⟨fun _ _ => trivial, ?_⟩
      rw [show (FW rr).round = some rr from rfl, Oper.semAt_eq (some rr) a.eval o (noDefer_ne hd.1)]
      exact uponIn_of (fun a w => wpListIn_of hL l a w hd.2) (h.resolve_right fun e => hL e.2)
    · rename_i hw
      rw [if_neg hw] at h
      exact ⟨fun _ _ => trivial, wpListIn_of hL l _ _ hd.2 h⟩
theorem inRegion {id : Nat} {l : List Oper} (hL : ¬ LetsOut Q) (hd : l.all noDefer = true) (h : wpList P l.toArray Q l a w) : (Code.region id l.toArray false).wpIn (FW rr) n P Q a w :=
  wpIn_region_lit (wpListIn_of hL l a w hd h)
theorem wpOpIn_of_step {i : Nat} {A : Act} {K : Value → World → Prop} {K' : Act → World → Prop} (ho : ops[i]? = some o) (hd : noDefer o = true)
    (he : execOp A.eval o = execOp a.eval o) (hw : Region.wanted o (yielded ops A.tmps) = Region.wanted o (yielded ops a.tmps))
    (h : StepOk P ops o A w K) (hK : ∀ v w', K v w' → K' (a.put o.dst v) w') : wpOpIn (FW rr) n P ops Q i K' a w := by
  unfold StepOk at h
  rw [he, hw] at h
  unfold wpOpIn
  rw [ho]
  show if Region.wanted o (yielded ops a.tmps) = true then _ else _
  split
  · rename_i hwa
    rw [if_pos hwa] at h
    refine ⟨fun _ _ => trivial, ?_⟩
    rw [show (FW rr).round = some rr from rfl, Oper.semAt_eq (some rr) a.eval o (noDefer_ne hd)]
    generalize (execOp a.eval o).run P w = r at h
    cases r with
    | ok n w' =>
      cases n <;> simp only [StepUpon] at h <;> simp only [Oper.uponIn]
      case value v => exact hK _ _ h
      case skip => exact hK _ _ h
      case enter f args => exact ⟨fun e => by simp [Fence.wide] at e, callsIn_w (h.mono fun e w'' he => by obtain ⟨v, rfl, hk⟩ := he; exact hK _ _ hk)⟩
    | halt x w' => simp only [StepUpon] at h
  · rename_i hwa
    rw [if_neg hwa] at h
    exact ⟨fun _ _ => trivial, hK _ _ h⟩
theorem wpAnyIn_inv (hN : ops.toList.all noDefer = true) (hB : anyOk ops = true) (a0 : Act) (C : List Nat → (Nat → Value) → World → Prop)
    (hstep : ∀ i o js vals w, ops[i]? = some o → i ∉ js → (∀ j, waits ops o j = true → j ∈ js) → C js vals w →
      StepOk P ops o (fillL ops vals (List.range ops.size) a0) w fun v w' => C (js ++ [i]) (Vset vals i v) w')
    (hend : ∀ js vals w, (∀ i < ops.size, i ∈ js) → C js vals w → Q .normal (fillL ops vals (List.range ops.size) a0) w) :
    ∀ (fuel : Nat) (js : List Nat) (listed : Array Bool) (vals : Nat → Value) (w : World), js.Nodup → (∀ j ∈ js, j < ops.size) →
      (∀ j < ops.size, listed.getD j true = decide (j ∈ js) ∧ listed.getD j false = decide (j ∈ js)) → listed.size = ops.size → js.length + fuel = ops.size → Closed ops js → C js vals w →
      wpAnyIn (FW rr) n P .any ops Q fuel listed (fillL ops vals js a0) w := by
  simp only [anyOk, Bool.and_eq_true] at hB
  obtain ⟨hS, hD, hE⟩ := hB
  have fin : ∀ (js : List Nat) (vals : Nat → Value) (w : World), js.Nodup → (∀ j ∈ js, j < ops.size) → (∀ i < ops.size, i ∈ js) → C js vals w → Q .normal (fillL ops vals js a0) w := by
    intro js vals w hn hlt hall hC
    have hp : js.Perm (List.range ops.size) := (List.perm_ext_iff_of_nodup hn List.nodup_range).2 fun j => ⟨fun h => List.mem_range.2 (hlt j h), fun h => hall j (List.mem_range.1 h)⟩
    rw [fillL_perm hD vals hp hn hlt a0]
    exact hend js vals w hall hC
  have none_ready : ∀ (js : List Nat) (listed : Array Bool), (∀ j < ops.size, listed.getD j true = decide (j ∈ js) ∧ listed.getD j false = decide (j ∈ js)) → Region.ready .any ops listed = [] → ∀ i < ops.size, i ∈ js := by
    intro js listed hl hr i
    induction i using Nat.strongRecOn with
    | _ i ih =>
      intro hi
      apply Classical.byContradiction
      intro hni
      have hmem : i ∈ Region.ready .any ops listed := by
        refine mem_ready.2 ⟨by rw [(hl i hi).1]; simpa using hni, ops[i], by simp [hi], fun e he hb => ?_⟩
        have hlt := (depsOk_spec hE (i := i) (o := ops[i]) (by simp [hi])).1 e he hb
        rw [(hl e.on (by omega)).2]
        simpa using ih e.on hlt (by omega)
      rw [hr] at hmem
      cases hmem
  intro fuel
  induction fuel with
  | zero =>
    intro js listed vals w hn hlt hl hsz hc hcl hC
    have hall : ∀ i < ops.size, i ∈ js := by
      intro i hi
      apply Classical.byContradiction
      intro hni
      have h1 := nodup_len (i :: js) (List.range ops.size) (List.nodup_cons.2 ⟨hni, hn⟩) (fun j hj => by
        rcases List.mem_cons.1 hj with rfl | h
        · exact List.mem_range.2 hi
        · exact List.mem_range.2 (hlt j h))
      simp at h1
      omega
    refine ⟨?_, fin js vals w hn hlt hall hC⟩
    cases hr : Region.ready .any ops listed with
    | nil => rfl
    | cons j rs =>
      have hj : j ∈ Region.ready .any ops listed := by rw [hr]; simp
      obtain ⟨h0, o, ho, _⟩ := mem_ready.1 hj
      have hjl : j < ops.size := (Array.getElem?_eq_some_iff.1 ho).1
      rw [(hl j hjl).1] at h0
      exact absurd (hall j hjl) (by simpa using h0)
  | succ fuel ih =>
    intro js listed vals w hn hlt hl hsz hc hcl hC
    refine ⟨fun hr => fin js vals w hn hlt (none_ready js listed hl hr) hC, fun i hi => ?_⟩
    obtain ⟨h0, o, ho, hafter⟩ := mem_ready.1 hi
    have hil : i < ops.size := (Array.getElem?_eq_some_iff.1 ho).1
    rw [(hl i hil).1] at h0
    have hni : i ∉ js := by simpa using h0
    have hdeps : ∀ e ∈ o.after, Region.binds .any e = true → e.on ∈ js := fun e he hb => by
      have h1 := hafter e he hb
      have hlt' := (depsOk_spec hE ho).1 e he hb
      rw [(hl e.on (by omega)).2] at h1
      simpa using h1
    have hsel : ∀ cs b, o.op ≠ .select cs b := fun cs b => Region.noSelect_spec hS i o cs b ho
    obtain ⟨rest, hrest⟩ : ∃ rest, rest = (List.range ops.size).filter fun j => decide (j ∉ js) := ⟨_, rfl⟩
    have hperm : (js ++ rest).Perm (List.range ops.size) := by
      refine (List.perm_ext_iff_of_nodup ?_ List.nodup_range).2 fun j => ?_
      · rw [List.nodup_append]
        refine ⟨hn, by rw [hrest]; exact List.nodup_range.filter _, fun x hx y hy e => ?_⟩
        subst e
        rw [hrest] at hy
        simp at hy
        exact hy.2 hx
      · rw [List.mem_append, hrest]
        simp only [List.mem_filter, List.mem_range, decide_eq_true_eq]
        constructor
        · rintro (h | h)
          · exact hlt j h
          · exact h.1
        · intro h
          by_cases hj : j ∈ js
          · exact .inl hj
          · exact .inr ⟨h, hj⟩
    have hnd : (js ++ rest).Nodup := hperm.nodup_iff.2 List.nodup_range
    have hall : ∀ j ∈ js ++ rest, j < ops.size := fun j hj => List.mem_range.1 (hperm.mem_iff.1 hj)
    have hwhole : fillL ops vals (List.range ops.size) a0 = fillL ops vals rest (fillL ops vals js a0) := by
      rw [← fillL_perm hD vals hperm hnd hall a0, fillL_append]
    obtain ⟨he, hw⟩ := exec_fill (ops := ops) o hsel vals rest (fun j hj d hd hmem => by
      have hjr : j < ops.size ∧ j ∉ js := by rw [hrest] at hj; simpa using hj
      obtain ⟨e, he, hb, heq⟩ := (depsOk_spec hE ho).2 j hjr.1 d hd hmem
      exact hjr.2 (heq ▸ hdeps e he hb)) (fillL ops vals js a0)
    rw [← hwhole] at he hw
    have hwaits : ∀ j, waits ops o j = true → j ∈ js := fun j hj => by
      obtain ⟨e, he, hp⟩ := List.any_eq_true.1 hj
      simp only [Bool.and_eq_true] at hp
      exact reachB_mem hcl 2 e.on j (hdeps e (by simpa using he) hp.1) hp.2
    refine wpOpIn_of_step ho (List.all_eq_true.1 hN o (Array.mem_toList_iff.2 (Array.mem_of_getElem? ho))) he hw (hstep i o js vals w ho hni hwaits hC) fun v w' hK => ?_
    have hdst : o.dst = dstOf ops i := by simp [dstOf, ho]
    have hnext : (fillL ops vals js a0).put o.dst v = fillL ops (Vset vals i v) (js ++ [i]) a0 := by
      rw [fillL_append, fillL_vset vals i v js hni, hdst]
      show _ = (fillL ops vals js a0).put (dstOf ops i) (Vset vals i v i)
      rw [Vset_same]
    rw [hnext]
    refine ih (js ++ [i]) (listed.setIfInBounds i true) (Vset vals i v) w' ?_ ?_ ?_ (by simpa using hsz) (by simp; omega) ?_ hK
    · rw [List.nodup_append]
      refine ⟨hn, by simp, fun x hx y hy e => ?_⟩
      simp at hy
      subst hy
      exact hni (e ▸ hx)
    · intro j hj
      rcases List.mem_append.1 hj with h | h
      · exact hlt j h
      · simp at h; omega
    · intro j hj
      by_cases hji : j = i
      · subst hji
        simp [hsz ▸ hj]
      · have := hl j hj
        rw [getD_set_ne true (Ne.symm hji), getD_set_ne false (Ne.symm hji)]
        simpa [hji] using this
    · intro j hj o' ho' e he hb
      rcases List.mem_append.1 hj with h | h
      · exact List.mem_append_left _ (hcl j h o' ho' e he hb)
      · simp at h
        subst h
        rw [ho] at ho'
        cases ho'
        exact List.mem_append_left _ (hdeps e he hb)
theorem wpIn_region_inv (hN : ops.toList.all noDefer = true) {id : Nat} {a0 : Act} {w0 : World} (hm : P.follows .mixedOrders = true) (hB : anyOk ops = true) (C : List Nat → (Nat → Value) → World → Prop)
    (h0 : C [] (fun _ => undef) w0.drew)
    (hstep : ∀ i o js vals w, ops[i]? = some o → i ∉ js → (∀ j, waits ops o j = true → j ∈ js) → C js vals w →
      StepOk P ops o (fillL ops vals (List.range ops.size) a0) w fun v w' => C (js ++ [i]) (Vset vals i v) w')
    (hend : ∀ js vals w, (∀ i < ops.size, i ∈ js) → C js vals w → Q .normal (fillL ops vals (List.range ops.size) a0) w) :
    (Code.region id ops true).wpIn (FW rr) n P Q a0 w0 := by
  refine wpIn_region_any hm ?_
  have := wpAnyIn_inv (P := P) (Q := Q) (rr := rr) (n := n) hN hB a0 C hstep hend ops.size [] (Array.replicate ops.size false) (fun _ => undef) w0.drew List.nodup_nil (by simp) (by intro j hj; simp [hj]) (by simp) (by simp) (fun j hj => by cases hj) h0
  exact this
theorem region_putIn {l : List Oper} (hN : l.all noDefer = true) (s : Nat) (os : Oper) (fs fs' : List Fact) {id : Nat} {a0 : Act} {W0 w0 : World} {bs bs' : Res} (HO : Mine W0 w0 bs) (hm : P.follows .mixedOrders = true) (hB : anyOk l.toArray = true) (hso : l[s]? = some os)
    (hs : ∀ p ∈ fs, Stays p) (hs' : ∀ p ∈ fs', Stays p)
    (h : ∀ vals A, A = fillL l.toArray vals (List.range l.length) a0 →
      eachFrom (Owes P l s os W0 w0 bs bs' fs fs' vals A) 0 l ∧
      ∀ w, (∀ i < l.length, Facts fs' i (vals i) w) → Mine W0 w bs' → Q .normal A w) :
    (Code.region id l.toArray true).wpIn (FW rr) n P Q a0 w0 := by
  refine wpIn_region_inv (by simpa using hN) hm hB (fun js vals w => (s ∉ js ∧ (∀ j ∈ js, Facts fs j (vals j) w) ∧ Mine W0 w bs ∧ Below w0.heap.size w0 w) ∨
    (s ∈ js ∧ (∀ j ∈ js, Facts fs' j (vals j) w) ∧ Mine W0 w bs' ∧ ∀ j, waits l.toArray os j = true → j ∈ js)) ?_ ?_ ?_
  · exact .inl ⟨by simp, by simp, HO.drew, (Below.refl _ _).drew⟩
  · intro i o js vals w ho hni hdeps hC
    have hA := h vals _ rfl
    have hi := eachFrom_spec hA.1 i o (by simpa using ho)
    rw [Nat.zero_add] at hi
    have hsz : l.toArray.size = l.length := by simp
    rw [hsz]
    unfold Owes at hi
    by_cases his : i = s
    · subst his
      rw [if_pos rfl] at hi
      rcases hC with ⟨h1, h2, h3, h4⟩ | ⟨h1, _⟩
      · have e : o = os := by
          have : l[i]? = some o := by simpa using ho
          rw [hso] at this
          exact (Option.some.inj this).symm
        subst e
        refine (hi w (fun j hj => h2 j (hdeps j hj)) h3 h4).mono fun v w' ⟨k1, k3, k4⟩ => .inr ⟨by simp, fun j hj => ?_, k1, fun j hj => List.mem_append_left _ (hdeps j hj)⟩
        rcases List.mem_append.1 hj with hj | hj
        · have hne : j ≠ i := fun e => hni (e ▸ hj)
          rw [Vset_other _ _ hne]
          exact k4 j hne (h2 j hj)
        · rw [List.mem_singleton.1 hj, Vset_same]
          exact k3
      · exact absurd h1 hni
    · rw [if_neg his] at hi
      rcases hC with ⟨h1, h2, h3, h4⟩ | ⟨h1, h2, h3, h5⟩
      · have key : ∀ {v w'}, Below w.heap.size w w' → Facts fs i v w' → (s ∉ js ++ [i] ∧ (∀ j ∈ js ++ [i], Facts fs j (Vset vals i v j) w') ∧ Mine W0 w' bs ∧ Below w0.heap.size w0 w') := by
          intro v w' hb hf
          refine ⟨by simp [h1]; exact fun e => his e.symm, fun j hj => ?_, h3.call hb, h4.trans (hb.mono h4.size)⟩
          rcases List.mem_append.1 hj with hj | hj
          · have hne : j ≠ i := fun e => hni (e ▸ hj)
            rw [Vset_other _ _ hne]
            exact Facts.stays hs j _ _ _ (h2 j hj) hb
          · rw [List.mem_singleton.1 hj, Vset_same]
            exact hf
        by_cases hw : waits l.toArray os i = true
        · rw [if_pos hw] at hi
          exact (hi w (fun j hj => h2 j (hdeps j hj)) h3 h4).mono fun v w' ⟨k1, k2⟩ => .inl (key k1 k2)
        · rw [if_neg hw] at hi
          exact (hi w (fun j hj => .inl (h2 j (hdeps j hj)))).mono fun v w' ⟨k1, k2, k3⟩ => by subst k1; exact .inl (key (Below.refl _ _) k2)
      · have hw : ¬ waits l.toArray os i = true := fun e => hni (h5 i e)
        rw [if_neg hw] at hi
        refine (hi w (fun j hj => .inr (h2 j (hdeps j hj)))).mono fun v w' ⟨k1, k2, k3⟩ => ?_
        subst k1
        refine .inr ⟨by simp [h1], fun j hj => ?_, h3, fun j hj => List.mem_append_left _ (h5 j hj)⟩
        rcases List.mem_append.1 hj with hj | hj
        · have hne : j ≠ i := fun e => hni (e ▸ hj)
          rw [Vset_other _ _ hne]
          exact h2 j hj
        · rw [List.mem_singleton.1 hj, Vset_same]
          exact k3
  · intro js vals w hall hC
    have hsz : l.toArray.size = l.length := by simp
    rw [hsz]
    have hA := h vals _ rfl
    have hsl : s < l.length := (List.getElem?_eq_some_iff.1 hso).1
    rcases hC with ⟨h1, _⟩ | ⟨h1, h2, h3, _⟩
    · exact absurd (hall s (by simpa using hsl)) h1
    · exact hA.2 w (fun i hi => h2 i (hall i (by simpa using hi))) h3
theorem mine_own {β : Type} {B : Nat} {W0 : World} (bs : β → Res) (hc : ∀ s, ∀ p ∈ bs s, ∀ o, p.2 o → o.isCells = true) (hB : W0.heap.size ≤ B) : OwnFrom B (fun s W => Mine W0 W (bs s)) := by
  intro s W W' row hM hg hr
  refine ⟨hM.below.grown hg hM.below.size (fun k e => Nat.le_trans hB (hr k e).1), hM.nodup, fun p hp => ?_⟩
  obtain ⟨h1, o, h2, h3⟩ := hM.held p hp
  refine ⟨h1, o, (hg.block p.1 (hM.lt hp) (fun e => ?_)).trans h2, h3⟩
  obtain ⟨_, o', ho', hn⟩ := hr p.1 e.symm
  rw [h2] at ho'
  cases ho'
  rw [hc s p hp o h3] at hn
  cases hn
theorem cells_isCells {cs : List Value} {T : TypeId} {o : Obj} (h : IsCells cs T o) : o.isCells = true := by rw [show o = _ from h]; rfl
end
end Go.Proofs.Ytllloedhlcdbjaa.Kit
end
section
namespace Go.Proofs.Ytllloedhlcdbjaa
set_option linter.unusedVariables false
set_option linter.unusedSimpArgs false
open Go.RowKit Kit Go.Shelf Go.Proofs.YtllloedhlcdbjaaW.PrintWords
def HasCells (w : World) (g : Nat) (cs : List Value) (T : TypeId) : Prop := w.heap[g]? = some (.cells cs.toArray T (0, 0))
structure Keep (g : Nat) (A B : World) : Prop where
  size : A.heap.size ≤ B.heap.size
  same : ∀ k, k < A.heap.size → k ≠ g → B.heap[k]? = A.heap[k]?
theorem Keep.refl (g : Nat) (A : World) : Keep g A A := ⟨Nat.le_refl _, fun _ _ _ => rfl⟩
theorem Keep.below {g : Nat} {A B C : World} (h : Keep g A B) (hb : Below B.heap.size B C) : Keep g A C :=
  ⟨Nat.le_trans h.size hb.size, fun k hk hne => (hb.block k (Nat.lt_of_lt_of_le hk h.size)).trans (h.same k hk hne)⟩
def Kp (n1 g : Nat) (A B : World) : Prop := ∀ k o, k < n1 → k ≠ g → A.heap[k]? = some o → B.heap[k]? = some o
theorem Kp.refl (n1 g : Nat) (A : World) : Kp n1 g A A := fun _ _ _ _ h => h
theorem Kp.trans {n1 g : Nat} {A B C : World} (h : Kp n1 g A B) (k : Kp n1 g B C) : Kp n1 g A C := fun i o h1 h2 h3 => k i o h1 h2 (h i o h1 h2 h3)
theorem Keep.kp {g : Nat} {A B : World} (h : Keep g A B) (n1 : Nat) : Kp n1 g A B := fun k o _ h2 h3 => (h.same k (Array.getElem?_eq_some_iff.1 h3).1 h2).trans h3
theorem Keep.from {g B0 : Nat} {A B : World} (h : Keep g A B) (hg : g < B0) : KeepsFrom B0 A B :=
  ⟨h.size, fun k o hB hk _ => (h.same k (Array.getElem?_eq_some_iff.1 hk).1 (by omega)).trans hk⟩
theorem Kp.cell {n1 g : Nat} {A B : World} (h : Kp n1 g A B) {p : Addr} {v : Value} (hc : A.cell? p = some v) (hp : p.block < n1) (hne : p.block ≠ g) : B.cell? p = some v := by
  have hlt := World.block_lt_of_cell? A _ hc
  have h1 : A.heap[p.block]? = some A.heap[p.block] := by simp [hlt]
  have h2 := h _ _ hp hne h1
  unfold World.cell? at hc ⊢
  rw [h1] at hc
  rw [h2]
  exact hc
theorem HasCells.cell {w : World} {g : Nat} {v : Value} {T : TypeId} (h : HasCells w g [v] T) : w.cell? ⟨g, 0, none⟩ = some v := by
  unfold HasCells at h
  simp [World.cell?, h]
def pairO (n : Int) : Option (Fin 12 × Int) := if h : 0 ≤ idxI ownL n ∧ idxI ownL n < 12 then some (⟨(idxI ownL n).toNat, by omega⟩, n) else none
def pairsL (l : List Int) : List (Fin 12 × Int) := l.filterMap pairO
theorem idx_fin {n : Int} (h : 0 ≤ idxI ownL n) : ∃ j : Fin 12, idxI ownL n = (j.val : Int) ∧ pairO n = some (j, n) := by
  have h2 : idxI ownL n < 12 := (idxI_range ownL n).2
  refine ⟨⟨(idxI ownL n).toNat, by omega⟩, by simp; omega, ?_⟩
  unfold pairO
  rw [dif_pos ⟨h, h2⟩]
theorem idx_none {n : Int} (h : ¬ 0 ≤ idxI ownL n) : pairO n = none := by
  unfold pairO
  rw [dif_neg (fun e => h e.1)]
attribute [local irreducible] wpList Calls wpQuiet
def PlAns (W w' : World) (sv : Value) (v : Value) : Prop := ∃ g1 g3 gL cap rest, v = .func (.func 41) #[] #[.pointer (some ⟨g1, 0, none⟩), .pointer (some ⟨g3, 0, none⟩)] ∧ W.heap.size ≤ g1 ∧ W.heap.size ≤ g3 ∧ W.heap.size ≤ gL ∧
  HasCells w' g1 [sv] 28 ∧ HasCells w' g3 [.slice (some ⟨gL, 0, none⟩) 12 cap] 28 ∧ HasCells w' gL (ownL.map (Value.int .i64) ++ rest) 3 ∧ 12 ≤ cap
set_option maxRecDepth 100000 in
set_option maxHeartbeats 4000000 in
theorem places_calls (A : Option Addr) (n c : Nat) (w : World) : Calls Try.prog 31 #[.slice A n c] w fun e w' => ∃ v, e = .returned v ∧ PlAns w w' (.slice A n c) v ∧ Below w.heap.size w w' := by
  have HO := Mine.start w
  go_enter Try.func31, Try.ntmps31
  go_wp2_with (first
      | (go_at_call 14; refine (own_calls _).mono ?_; rintro eN wN ⟨v, rfl, ⟨gL, cpgL, rsL, rfl, hge, hgL, hcp⟩, hbN⟩; have HCP := Lib.hid hcp; clear hcp; have HON := (HO.call hbN).take (p := IsCells (Value.int .i64 1 :: Value.int .i64 9 :: Value.int .i64 66 :: Value.int .i64 67 :: Value.int .i64 1000 :: Value.int .i64 1002 :: Value.int .i64 1003 :: Value.int .i64 1004 :: Value.int .i64 1005 :: Value.int .i64 1006 :: Value.int .i64 1015 :: Value.int .i64 2004 :: rsL) 3) (fun q hq => HO.lt hq) HO.below.size hge ⟨_, hgL, rfl⟩; clear HO hbN hgL hge; have HO := HON; clear HON; (simp only [List.nil_append, List.cons_append] at HO))
      | ((with_reducible refine gate ?_); (first
      | ((refine own_box HO rfl rfl rfl ?_); clear HO; intro gB wN hgN HO; (simp only [List.nil_append, List.cons_append] at HO); (try simp only [Act.put, List.setIfInBounds_toArray, List.set_cons_zero, List.set_cons_succ]))
      | ((refine own_alloc (T := 28) HO rfl rfl Try.zeroValue28 rfl ?_); clear HO; intro gA wN hgA HO; (simp only [List.nil_append, List.cons_append] at HO); (try simp only [Act.put, List.setIfInBounds_toArray, List.set_cons_zero, List.set_cons_succ]))
      | ((refine own_load1 (T := 28) HO rfl rfl rfl (by first | exact .head _ | exact .tail _ (.head _) | exact .tail _ (.tail _ (.head _)) | exact .tail _ (.tail _ (.tail _ (.head _))) | exact .tail _ (.tail _ (.tail _ (.tail _ (.head _)))) | exact .tail _ (.tail _ (.tail _ (.tail _ (.tail _ (.head _)))))) Try.isAgg28 rfl ?_); (try simp only [Act.put, List.setIfInBounds_toArray, List.set_cons_zero, List.set_cons_succ]))
      | ((refine own_store (T := 28) HO rfl rfl rfl rfl (by first | exact .here | exact .there (.here) | exact .there (.there (.here)) | exact .there (.there (.there (.here))) | exact .there (.there (.there (.there (.here)))) | exact .there (.there (.there (.there (.there (.here)))))) Try.sizeOf28 (by repeat constructor) rfl ?_); clear HO; intro wN HO; (try simp only [Act.put, List.setIfInBounds_toArray, List.set_cons_zero, List.set_cons_succ])))))
  go_ret
  exact ⟨_, rfl, ⟨gB, gA, gL, cpgL, rsL, rfl, (HO.held _ (.head _)).1, (HO.held _ (.tail _ (.tail _ (.head _)))).1, (HO.held _ (.tail _ (.head _))).1, HO.at (.head _), HO.at (.tail _ (.tail _ (.head _))), HO.at (.tail _ (.head _)), HCP.out⟩, HO.below⟩
end Go.Proofs.Ytllloedhlcdbjaa
end
section
namespace Go.Proofs.Ytllloedhlcdbjaa
set_option linter.unusedVariables false
set_option linter.unusedSimpArgs false
open Go.RowKit Kit Go.Shelf Go.Proofs.YtllloedhlcdbjaaW.PrintWords
attribute [local go_sem] Oper.semAt_some
theorem add_block (ad : Addr) (j : Nat) : (ad.add j).block = ad.block := by unfold Addr.add; split <;> rfl
theorem pairs_in {l : List Int} {k : Nat} (hk : k < l.length) {x : Int} (hx : l.getD k 0 = x) {j : Fin 12} (h : pairO x = some (j, x)) : pairsL (l.take (k + 1)) = pairsL (l.take k) ++ [(j, x)] := by
  have e : l[k] = x := by rw [← hx]; simp [List.getD, hk]
  rw [List.take_succ_eq_append_getElem hk, pairsL, List.filterMap_append, e]
  simp [h, pairsL]
theorem pairs_out {l : List Int} {k : Nat} (hk : k < l.length) {x : Int} (hx : l.getD k 0 = x) (h : pairO x = none) : pairsL (l.take (k + 1)) = pairsL (l.take k) := by
  have e : l[k] = x := by rw [← hx]; simp [List.getD, hk]
  rw [List.take_succ_eq_append_getElem hk, pairsL, List.filterMap_append, e]
  simp [h, pairsL]
theorem pairs_lt {l : List Int} {k : Nat} (hk : k < l.length) {x : Int} (hx : l.getD k 0 = x) {j : Fin 12} (h : pairO x = some (j, x)) : (pairsL (l.take k)).length < (pairsL l).length := by
  have h1 := pairs_in hk hx h
  have h2 : pairsL (l.take (k + 1) ++ l.drop (k + 1)) = pairsL (l.take (k + 1)) ++ pairsL (l.drop (k + 1)) := List.filterMap_append
  rw [List.take_append_drop] at h2
  rw [h2, h1]
  simp
theorem pairs_pre (l : List Int) (k : Nat) : pairsL (l.take k) <+: pairsL l := by
  have h2 : pairsL (l.take k ++ l.drop k) = pairsL (l.take k) ++ pairsL (l.drop k) := List.filterMap_append
  rw [List.take_append_drop] at h2
  exact ⟨_, h2.symm⟩
theorem own_cells {w : World} {gL : Nat} {rest : List Value} (h : HasCells w gL (ownL.map (Value.int .i64) ++ rest) 3) : ∀ j, j < 12 → w.cell? ⟨gL, 0 + j, none⟩ = some (.int .i64 (ownL[j]?.getD 0)) := by
  intro j hj
  unfold HasCells at h
  have h2 : (ownL.map (Value.int .i64) ++ rest)[j]? = some (.int .i64 (ownL[j]?.getD 0)) := by
    have hl : (ownL.map (Value.int .i64)).length = 12 := rfl
    rw [List.getElem?_append_left (by omega), List.getElem?_map]
    have : j < ownL.length := hj
    simp [this]
  simp [World.cell?, h, h2]
theorem meas_len (len k : Nat) (h : k < len) : len - (intOf (.int .i64 ((k : Int) + 1))).toNat < len - (intOf (.int .i64 (k : Int))).toNat := by
  show len - ((k : Int) + 1).toNat < len - ((k : Int)).toNat
  omega
set_option maxRecDepth 100000 in
set_option maxHeartbeats 4000000 in
theorem places1_in (n : Nat) (hn : 2 ≤ n) (l n1 g g1 g3 gL cap len c : Nat) (rest : List Value) (A : Option Addr) (nums : List Int) (hlen : nums.length = len) (hreach : len ≤ 1000000) (J Jx : List (Fin 12 × Int) → World → Prop)
    (hY : ∀ pre x W, J pre W → pre.length < (pairsL nums).length → YieldAt Fence.wide (n - 1) Try.prog l #[.int .i64 (x.1.val : Int), .int .i64 x.2] W fun e W' =>
      (e = .returned (.bool true) ∧ J (pre ++ [x]) W' ∧ Kp n1 g W W') ∨ (e = .returned (.bool false) ∧ Jx (pre ++ [x]) W'))
    (W : World) (h1 : HasCells W g1 [.slice A len c] 28) (h3 : HasCells W g3 [.slice (some ⟨gL, 0, none⟩) 12 cap] 28) (hL : HasCells W gL (ownL.map (Value.int .i64) ++ rest) 3)
    (b3 : g3 < n1 ∧ g3 ≠ g) (bL : gL < n1 ∧ gL ≠ g) (hA : ∀ j, j < len → ∃ ad, A = some ad ∧ W.cell? (ad.add j) = some (.int .i64 (nums.getD j 0)) ∧ ad.block < n1 ∧ ad.block ≠ g) (h0 : J [] W) :
    CallsIn Fence.wide n Try.prog 41 #[.func (.yield l) #[] #[], .pointer (some ⟨g1, 0, none⟩), .pointer (some ⟨g3, 0, none⟩)] W fun e W' => (∃ v, e = .returned v) ∧
      ((∃ ys, ys = pairsL nums ∧ J ys W') ∨ (∃ pre, pre <+: pairsL nums ∧ Jx pre W')) := by
  have c1 := h1.cell
  have hn1 : 1 ≤ n := by omega
  have hfI : Fence.wide.fn 40 := trivial
  refine callsIn_of_wp Try.func41 rfl trivial ?_ rfl
  simp only [Try.ntmps41, List.size_toArray, List.length_cons, List.length_nil, Nat.reduceAdd, Nat.reduceSub, Array.replicate_succ, Array.replicate_zero, List.push_toArray, List.append_toArray, List.nil_append, List.cons_append]
  gi_wp2
  gi_loopw [9] (fun i wr => ∃ k : Nat, k ≤ len ∧ i = .int .i64 k ∧ J (pairsL (nums.take k)) wr ∧ Kp n1 g W wr) (fun i _ => len - (intOf i).toNat)
  case atStart => exact ⟨0, Nat.zero_le _, rfl, h0, Kp.refl _ _ _⟩
  case round =>
    obtain ⟨k, hk, rfl, hJs, hkp⟩ := hrel
    by_cases hlt : k < len
    · obtain ⟨ad, rfl, hcell, hb1, hb2⟩ := hA k hlt
      have hc2 := hkp.cell hcell (by rw [add_block]; exact hb1) (by rw [add_block]; exact hb2)
      have hc3 := hkp.cell h3.cell b3.1 b3.2
      have hcL : HasCells wr gL (ownL.map (Value.int .i64) ++ rest) 3 := hkp _ _ bL.1 bL.2 hL
      obtain ⟨x, hx⟩ : ∃ x, nums.getD k 0 = x := ⟨_, rfl⟩
      rw [hx] at hc2
      have cI := index_ints gL 0 12 cap ownL x wr rfl (by decide) (own_cells hcL)
      by_cases hi : 0 ≤ idxI ownL x
      · obtain ⟨j, hj, hp⟩ := idx_fin hi
        have hpl := pairs_lt (l := nums) (k := k) (by omega) hx hp
        have hpi := pairs_in (l := nums) (k := k) (by omega) hx hp
        rw [hj] at cI
        obtain ⟨fn, tmps, assign, body, hy, hR⟩ := hY _ (j, x) wr hJs hpl
        dsimp only at hy
        rw [← hpi] at hR
        have HR := Lib.hid hR
        have HK := Lib.hid hkp
        have hd : decide (0 ≤ (j.val : Int)) = true := decide_eq_true (by omega)
        clear hR hkp hcell hA hpl hpi hi hcL hj hp
        gi_wp2_with (gi_at_call 40; refine (callsIn_wide.2 cI).mono ?_; rintro e w' ⟨rfl, rfl⟩)
        refine HR.out.mono ?_
        rintro e W3 (⟨rfl, hJ3, hk3⟩ | ⟨rfl, hJx3⟩)
        · gi_wp2
          go_roundw
          case rel => exact ⟨k + 1, by omega, by simp, hJ3, HK.out.trans hk3⟩
          case measure => exact meas_len len k hlt
        · gi_wp2
          refine bodyPost_ret (results_none rfl _ _ _) rfl ?_
          exact ⟨⟨_, rfl⟩, .inr ⟨_, pairs_pre nums (k + 1), hJx3⟩⟩
      · have hpo := pairs_out (l := nums) (k := k) (by omega) hx (idx_none hi)
        have hd : decide (0 ≤ idxI ownL x) = false := decide_eq_false hi
        have HJ := Lib.hid hJs
        have HK := Lib.hid hkp
        have HP := Lib.hid hpo
        clear hJs hkp hcell hA hpo hi hcL
        gi_wp2_with (gi_at_call 40; refine (callsIn_wide.2 cI).mono ?_; rintro e w' ⟨rfl, rfl⟩)
        refine ⟨fun _ h => (by cases h), ?_⟩
        gi_wp2
        go_roundw
        case rel => exact ⟨k + 1, by omega, by simp, by rw [HP.out]; exact HJ.out, HK.out⟩
        case measure => exact meas_len len k hlt
    · obtain rfl : k = len := by omega
      rw [List.take_of_length_le (by omega)] at hJs
      gi_wp2
      go_end0
      exact ⟨⟨_, rfl⟩, .inl ⟨_, rfl, hJs⟩⟩
def Nums (n1 g : Nat) (A : Option Addr) (nums : List Int) (W : World) : Prop := ∀ j, j < nums.length → ∃ ad, A = some ad ∧ W.cell? (ad.add j) = some (.int .i64 (nums.getD j 0)) ∧ ad.block < n1 ∧ ad.block ≠ g
theorem places_stops (n : Nat) (hn : 2 ≤ n) (n1 g g1 g3 gL cap c : Nat) (rest : List Value) (A : Option Addr) (nums : List Int) (hreach : nums.length ≤ 1000000) (w : World) (h1 : HasCells w g1 [.slice A nums.length c] 28) (h3 : HasCells w g3 [.slice (some ⟨gL, 0, none⟩) 12 cap] 28) (hL : HasCells w gL (ownL.map (Value.int .i64) ++ rest) 3)
    (b3 : g3 < n1 ∧ g3 ≠ g) (bL : gL < n1 ∧ gL ≠ g) (hA : Nums n1 g A nums w) :
    SeqStopsK Fence.wide n Try.prog 41 #[.pointer (some ⟨g1, 0, none⟩), .pointer (some ⟨g3, 0, none⟩)] (fun x : Fin 12 × Int => #[Value.int .i64 (x.1.val : Int), Value.int .i64 x.2]) (Kp n1 g) (fun ys => ys = pairsL nums) (fun pre => pre <+: pairsL nums) (pairsL nums).length w := by
  intro l J Jx W hW _ _ hY h0
  have st : ∀ {b : Nat} {cs : List Value} {T : TypeId}, HasCells w b cs T → HasCells W b cs T := fun {b cs T} h => (hW.block b (Array.getElem?_eq_some_iff.1 h).1).trans h
  exact places1_in n hn l n1 g g1 g3 gL cap nums.length c rest A nums rfl hreach J Jx hY W (st h1) (st h3) (st hL) b3 bL (fun j hj => by
    obtain ⟨ad, e, hc, h4, h5⟩ := hA j hj
    exact ⟨ad, e, (hW.cell (World.block_lt_of_cell? w _ hc)).trans hc, h4, h5⟩) h0
end Go.Proofs.Ytllloedhlcdbjaa
end
section
namespace Go.Proofs.Ytllloedhlcdbjaa
set_option linter.unusedVariables false
set_option linter.unusedSimpArgs false
open Go.RowKit Kit
theorem Md.ext_iff' (m n : Md) : (m.cursor == n.cursor && (m.keypad == n.keypad && (m.back == n.back && (m.focus == n.focus && (m.paste == n.paste && (m.lock == n.lock && (m.line == n.line && (m.mouse == n.mouse && (m.coding == n.coding && (m.other == n.other && true)))))))))) = decide (m = n) := by
  rw [Bool.eq_iff_iff]
  cases m; cases n
  simp [and_assoc]
theorem equal_modes (m n : Md) (w : World) : (Op.equal 23 m.v n.v).run Try.prog w = .ok (decide (m = n)) w := by
  rw [← Md.ext_iff']
  refine eqStruct_of Try.underlying23 (by kernel_rfl) ?_
  refine eqF_cons (by rfl) (by go_simp; rfl) (by go_simp; rfl) (by go_simp) ?_
  refine eqF_cons (by rfl) (by go_simp; rfl) (by go_simp; rfl) (by go_simp) ?_
  refine eqF_cons (by rfl) (by go_simp; rfl) (by go_simp; rfl) (by go_simp) ?_
  refine eqF_cons (by rfl) (by go_simp; rfl) (by go_simp; rfl) (by go_simp) ?_
  refine eqF_cons (by rfl) (by go_simp; rfl) (by go_simp; rfl) (by go_simp) ?_
  refine eqF_cons (by rfl) (by go_simp; rfl) (by go_simp; rfl) (by go_simp) ?_
  refine eqF_cons (by rfl) (by go_simp; rfl) (by go_simp; rfl) (by go_simp) ?_
  refine eqF_cons (by rfl) (by go_simp; rfl) (by go_simp; rfl) (by go_simp) ?_
  refine eqF_cons (by rfl) (by go_simp; rfl) (by go_simp; rfl) (by go_simp) ?_
  refine eqF_cons (by rfl) (by go_simp; rfl) (by go_simp; rfl) (by go_simp) ?_
  exact eqF_nil
theorem fixed_says (n : Int) : ∃ ok, Says [(Value.int .i64 7, Value.int .i64 3), (.int .i64 25, .int .i64 3)] (.int .i64 n) (.int .i64 0) (.int .i64 (fixedM true n)) ok := by
  by_cases h1 : n = 7
  · subst h1; exact ⟨_, .hit _ (by simp [fixedM])⟩
  by_cases h2 : n = 25
  · subst h2; exact ⟨_, .hit _ (by simp [fixedM])⟩
  have e : fixedM true n = 0 := by simp [fixedM, h1, h2]
  rw [e]
  exact ⟨_, .miss (by simp [h1, h2, eq_comm])⟩
theorem fixed_says' (n : Int) : ∃ ok, Says [(Value.int .i64 4, Value.int .i64 4), (.int .i64 12, .int .i64 4)] (.int .i64 n) (.int .i64 0) (.int .i64 (fixedM false n)) ok := by
  by_cases h1 : n = 4
  · subst h1; exact ⟨_, .hit _ (by simp [fixedM])⟩
  by_cases h2 : n = 12
  · subst h2; exact ⟨_, .hit _ (by simp [fixedM])⟩
  have e : fixedM false n = 0 := by simp [fixedM, h1, h2]
  rw [e]
  exact ⟨_, .miss (by simp [h1, h2, eq_comm])⟩
set_option maxHeartbeats 1000000 in
theorem get_calls (m : Md) (p : Bool) (n : Int) (w : World) :
    Calls Try.prog 15 #[m.v, .bool p, .int .i64 n] w fun e w' => e = .returned (.int .i64 (getM m p n)) ∧ Below w.heap.size w w' := by
  have HO := Mine.start w
  obtain ⟨on, hon⟩ : ∃ x, setM m p n true = x := ⟨_, rfl⟩
  have hg : getM m p n = if on.2 then (if on.1 = m then 1 else 2) else fixedM p n := by simp [getM, hon]
  have HG := Lib.hid hg
  have HON' := Lib.hid hon
  clear hg hon
  go_enter Try.func15, Try.ntmps15
  go_wp2_with (first
      | ((with_reducible refine gate ?_); (first
      | ((refine own_box HO rfl rfl rfl ?_); clear HO; intro gN wN hgN HO; (simp only [List.nil_append, List.cons_append] at HO); (try simp only [Act.put, List.setIfInBounds_toArray, List.set_cons_zero, List.set_cons_succ]))
      | ((refine own_alloc (T := 23) HO rfl rfl Try.zeroValue23 rfl ?_); clear HO; intro gN wN hgN HO; (simp only [List.nil_append, List.cons_append] at HO); (try simp only [Act.put, List.setIfInBounds_toArray, List.set_cons_zero, List.set_cons_succ]))
      | ((refine own_alloc (T := 3) HO rfl rfl Try.zeroValue3 rfl ?_); clear HO; intro gN wN hgN HO; (simp only [List.nil_append, List.cons_append] at HO); (try simp only [Act.put, List.setIfInBounds_toArray, List.set_cons_zero, List.set_cons_succ]))
      | ((refine own_alloc (T := 4) HO rfl rfl Try.zeroValue4 rfl ?_); clear HO; intro gN wN hgN HO; (simp only [List.nil_append, List.cons_append] at HO); (try simp only [Act.put, List.setIfInBounds_toArray, List.set_cons_zero, List.set_cons_succ]))
      | ((refine own_load (T := 23) HO rfl rfl rfl (by first | exact .head _ | exact .tail _ (.head _) | exact .tail _ (.tail _ (.head _)) | exact .tail _ (.tail _ (.tail _ (.head _))) | exact .tail _ (.tail _ (.tail _ (.tail _ (.head _)))) | exact .tail _ (.tail _ (.tail _ (.tail _ (.tail _ (.head _)))))) Try.isAgg23 Try.sizeOf23 (by repeat constructor) ?_); (try simp only [Act.put, List.setIfInBounds_toArray, List.set_cons_zero, List.set_cons_succ]))
      | ((refine own_load1 (T := 3) HO rfl rfl rfl (by first | exact .head _ | exact .tail _ (.head _) | exact .tail _ (.tail _ (.head _)) | exact .tail _ (.tail _ (.tail _ (.head _))) | exact .tail _ (.tail _ (.tail _ (.tail _ (.head _)))) | exact .tail _ (.tail _ (.tail _ (.tail _ (.tail _ (.head _)))))) Try.isAgg3 rfl ?_); (try simp only [Act.put, List.setIfInBounds_toArray, List.set_cons_zero, List.set_cons_succ]))
      | ((refine own_load1 (T := 4) HO rfl rfl rfl (by first | exact .head _ | exact .tail _ (.head _) | exact .tail _ (.tail _ (.head _)) | exact .tail _ (.tail _ (.tail _ (.head _))) | exact .tail _ (.tail _ (.tail _ (.tail _ (.head _)))) | exact .tail _ (.tail _ (.tail _ (.tail _ (.tail _ (.head _)))))) Try.isAgg4 rfl ?_); (try simp only [Act.put, List.setIfInBounds_toArray, List.set_cons_zero, List.set_cons_succ]))
      | ((refine own_store (T := 23) HO rfl rfl rfl rfl (by first | exact .here | exact .there (.here) | exact .there (.there (.here)) | exact .there (.there (.there (.here))) | exact .there (.there (.there (.there (.here)))) | exact .there (.there (.there (.there (.there (.here)))))) Try.sizeOf23 (by repeat constructor) rfl ?_); clear HO; intro wN HO; (try simp only [Act.put, List.setIfInBounds_toArray, List.set_cons_zero, List.set_cons_succ]))
      | ((refine own_store (T := 3) HO rfl rfl rfl rfl (by first | exact .here | exact .there (.here) | exact .there (.there (.here)) | exact .there (.there (.there (.here))) | exact .there (.there (.there (.there (.here)))) | exact .there (.there (.there (.there (.there (.here)))))) Try.sizeOf3 (by repeat constructor) rfl ?_); clear HO; intro wN HO; (try simp only [Act.put, List.setIfInBounds_toArray, List.set_cons_zero, List.set_cons_succ]))
      | ((refine own_store (T := 4) HO rfl rfl rfl rfl (by first | exact .here | exact .there (.here) | exact .there (.there (.here)) | exact .there (.there (.there (.here))) | exact .there (.there (.there (.there (.here)))) | exact .there (.there (.there (.there (.there (.here)))))) Try.sizeOf4 (by repeat constructor) rfl ?_); clear HO; intro wN HO; (try simp only [Act.put, List.setIfInBounds_toArray, List.set_cons_zero, List.set_cons_succ])))))
  refine (set_calls m p n true _).mono ?_
  rintro e w1 ⟨rfl, hb⟩
  replace HO := HO.call hb
  clear hb
  rw [HON'.out]
  clear HON'
  obtain ⟨on, ok⟩ := on
  dsimp only at HG ⊢
  cases ok
  · have hgf : getM m p n = fixedM p n := by rw [HG.out]; rfl
    have HGF := Lib.hid hgf
    clear HG hgf
    cases p
    · obtain ⟨ok, hs⟩ := fixed_says' n
      have HS := Lib.hid hs
      clear hs
      go_wp2_with (first
      | ((with_reducible refine gate ?_); (first
      | ((refine own_makeMap HO rfl rfl ?_); clear HO; intro gN wN hgN HO; (simp only [List.nil_append, List.cons_append] at HO); (try simp only [Act.put, List.setIfInBounds_toArray, List.set_cons_zero, List.set_cons_succ]))
      | ((refine own_insert (mt := 62) HO rfl rfl rfl (by first | exact .const | exact .tmp rfl | exact .func) (by first | exact .const | exact .tmp rfl | exact .func) Try.underlying62 Try.underlying3 (by first | exact .here | exact .there (.here) | exact .there (.there (.here)) | exact .there (.there (.there (.here))) | exact .there (.there (.there (.there (.here)))) | exact .there (.there (.there (.there (.there (.here)))))) (by simp [MapKept.IsKey]) (by first | exact rfl | exact trivial) (by simp) ?_); clear HO; intro wN HO; (simp only [List.nil_append, List.cons_append] at HO); (try simp only [Act.put, List.setIfInBounds_toArray, List.set_cons_zero, List.set_cons_succ]))
      | ((refine own_insert (mt := 63) HO rfl rfl rfl (by first | exact .const | exact .tmp rfl | exact .func) (by first | exact .const | exact .tmp rfl | exact .func) Try.underlying63 Try.underlying4 (by first | exact .here | exact .there (.here) | exact .there (.there (.here)) | exact .there (.there (.there (.here))) | exact .there (.there (.there (.there (.here)))) | exact .there (.there (.there (.there (.there (.here)))))) (by simp [MapKept.IsKey]) (by first | exact rfl | exact trivial) (by simp) ?_); clear HO; intro wN HO; (simp only [List.nil_append, List.cons_append] at HO); (try simp only [Act.put, List.setIfInBounds_toArray, List.set_cons_zero, List.set_cons_succ]))
      | ((refine own_lookup (mt := 63) HO rfl rfl rfl (by first | exact .const | exact .tmp rfl | exact .func) Try.underlying63 Try.underlying4 Try.zeroValue62 (by first | exact .head _ | exact .tail _ (.head _) | exact .tail _ (.tail _ (.head _)) | exact .tail _ (.tail _ (.tail _ (.head _))) | exact .tail _ (.tail _ (.tail _ (.tail _ (.head _)))) | exact .tail _ (.tail _ (.tail _ (.tail _ (.tail _ (.head _)))))) (by simp) (by simp [MapKept.IsKey]) (by first | exact rfl | exact trivial) (.hit _ (by simp; rfl)) ?_); (try simp only [Act.put, List.setIfInBounds_toArray, List.set_cons_zero, List.set_cons_succ]))
      | ((refine own_lookup (mt := 62) HO rfl rfl rfl (by first | exact .const | exact .tmp rfl | exact .func) Try.underlying62 Try.underlying3 Try.zeroValue3 (by first | exact .head _ | exact .tail _ (.head _) | exact .tail _ (.tail _ (.head _)) | exact .tail _ (.tail _ (.tail _ (.head _))) | exact .tail _ (.tail _ (.tail _ (.tail _ (.head _)))) | exact .tail _ (.tail _ (.tail _ (.tail _ (.tail _ (.head _)))))) (by simp) (by simp [MapKept.IsKey]) (by first | exact rfl | exact trivial) (HS.out) ?_); (try simp only [Act.put, List.setIfInBounds_toArray, List.set_cons_zero, List.set_cons_succ]))
      | ((refine own_box HO rfl rfl rfl ?_); clear HO; intro gN wN hgN HO; (simp only [List.nil_append, List.cons_append] at HO); (try simp only [Act.put, List.setIfInBounds_toArray, List.set_cons_zero, List.set_cons_succ]))
      | ((refine own_alloc (T := 23) HO rfl rfl Try.zeroValue23 rfl ?_); clear HO; intro gN wN hgN HO; (simp only [List.nil_append, List.cons_append] at HO); (try simp only [Act.put, List.setIfInBounds_toArray, List.set_cons_zero, List.set_cons_succ]))
      | ((refine own_alloc (T := 3) HO rfl rfl Try.zeroValue3 rfl ?_); clear HO; intro gN wN hgN HO; (simp only [List.nil_append, List.cons_append] at HO); (try simp only [Act.put, List.setIfInBounds_toArray, List.set_cons_zero, List.set_cons_succ]))
      | ((refine own_alloc (T := 4) HO rfl rfl Try.zeroValue4 rfl ?_); clear HO; intro gN wN hgN HO; (simp only [List.nil_append, List.cons_append] at HO); (try simp only [Act.put, List.setIfInBounds_toArray, List.set_cons_zero, List.set_cons_succ]))
      | ((refine own_load (T := 23) HO rfl rfl rfl (by first | exact .head _ | exact .tail _ (.head _) | exact .tail _ (.tail _ (.head _)) | exact .tail _ (.tail _ (.tail _ (.head _))) | exact .tail _ (.tail _ (.tail _ (.tail _ (.head _)))) | exact .tail _ (.tail _ (.tail _ (.tail _ (.tail _ (.head _)))))) Try.isAgg23 Try.sizeOf23 (by repeat constructor) ?_); (try simp only [Act.put, List.setIfInBounds_toArray, List.set_cons_zero, List.set_cons_succ]))
      | ((refine own_load1 (T := 3) HO rfl rfl rfl (by first | exact .head _ | exact .tail _ (.head _) | exact .tail _ (.tail _ (.head _)) | exact .tail _ (.tail _ (.tail _ (.head _))) | exact .tail _ (.tail _ (.tail _ (.tail _ (.head _)))) | exact .tail _ (.tail _ (.tail _ (.tail _ (.tail _ (.head _)))))) Try.isAgg3 rfl ?_); (try simp only [Act.put, List.setIfInBounds_toArray, List.set_cons_zero, List.set_cons_succ]))
      | ((refine own_load1 (T := 4) HO rfl rfl rfl (by first | exact .head _ | exact .tail _ (.head _) | exact .tail _ (.tail _ (.head _)) | exact .tail _ (.tail _ (.tail _ (.head _))) | exact .tail _ (.tail _ (.tail _ (.tail _ (.head _)))) | exact .tail _ (.tail _ (.tail _ (.tail _ (.tail _ (.head _)))))) Try.isAgg4 rfl ?_); (try simp only [Act.put, List.setIfInBounds_toArray, List.set_cons_zero, List.set_cons_succ]))
      | ((refine own_store (T := 23) HO rfl rfl rfl rfl (by first | exact .here | exact .there (.here) | exact .there (.there (.here)) | exact .there (.there (.there (.here))) | exact .there (.there (.there (.there (.here)))) | exact .there (.there (.there (.there (.there (.here)))))) Try.sizeOf23 (by repeat constructor) rfl ?_); clear HO; intro wN HO; (try simp only [Act.put, List.setIfInBounds_toArray, List.set_cons_zero, List.set_cons_succ]))
      | ((refine own_store (T := 3) HO rfl rfl rfl rfl (by first | exact .here | exact .there (.here) | exact .there (.there (.here)) | exact .there (.there (.there (.here))) | exact .there (.there (.there (.there (.here)))) | exact .there (.there (.there (.there (.there (.here)))))) Try.sizeOf3 (by repeat constructor) rfl ?_); clear HO; intro wN HO; (try simp only [Act.put, List.setIfInBounds_toArray, List.set_cons_zero, List.set_cons_succ]))
      | ((refine own_store (T := 4) HO rfl rfl rfl rfl (by first | exact .here | exact .there (.here) | exact .there (.there (.here)) | exact .there (.there (.there (.here))) | exact .there (.there (.there (.there (.here)))) | exact .there (.there (.there (.there (.there (.here)))))) Try.sizeOf4 (by repeat constructor) rfl ?_); clear HO; intro wN HO; (try simp only [Act.put, List.setIfInBounds_toArray, List.set_cons_zero, List.set_cons_succ])))))
      go_ret
      exact ⟨ret_int HGF.out.symm, HO.below⟩
    · obtain ⟨ok, hs⟩ := fixed_says n
      have HS := Lib.hid hs
      clear hs
      go_wp2_with (first
      | ((with_reducible refine gate ?_); (first
      | ((refine own_makeMap HO rfl rfl ?_); clear HO; intro gN wN hgN HO; (simp only [List.nil_append, List.cons_append] at HO); (try simp only [Act.put, List.setIfInBounds_toArray, List.set_cons_zero, List.set_cons_succ]))
      | ((refine own_insert (mt := 62) HO rfl rfl rfl (by first | exact .const | exact .tmp rfl | exact .func) (by first | exact .const | exact .tmp rfl | exact .func) Try.underlying62 Try.underlying3 (by first | exact .here | exact .there (.here) | exact .there (.there (.here)) | exact .there (.there (.there (.here))) | exact .there (.there (.there (.there (.here)))) | exact .there (.there (.there (.there (.there (.here)))))) (by simp [MapKept.IsKey]) (by first | exact rfl | exact trivial) (by simp) ?_); clear HO; intro wN HO; (simp only [List.nil_append, List.cons_append] at HO); (try simp only [Act.put, List.setIfInBounds_toArray, List.set_cons_zero, List.set_cons_succ]))
      | ((refine own_insert (mt := 63) HO rfl rfl rfl (by first | exact .const | exact .tmp rfl | exact .func) (by first | exact .const | exact .tmp rfl | exact .func) Try.underlying63 Try.underlying4 (by first | exact .here | exact .there (.here) | exact .there (.there (.here)) | exact .there (.there (.there (.here))) | exact .there (.there (.there (.there (.here)))) | exact .there (.there (.there (.there (.there (.here)))))) (by simp [MapKept.IsKey]) (by first | exact rfl | exact trivial) (by simp) ?_); clear HO; intro wN HO; (simp only [List.nil_append, List.cons_append] at HO); (try simp only [Act.put, List.setIfInBounds_toArray, List.set_cons_zero, List.set_cons_succ]))
      | ((refine own_lookup (mt := 63) HO rfl rfl rfl (by first | exact .const | exact .tmp rfl | exact .func) Try.underlying63 Try.underlying4 Try.zeroValue62 (by first | exact .head _ | exact .tail _ (.head _) | exact .tail _ (.tail _ (.head _)) | exact .tail _ (.tail _ (.tail _ (.head _))) | exact .tail _ (.tail _ (.tail _ (.tail _ (.head _)))) | exact .tail _ (.tail _ (.tail _ (.tail _ (.tail _ (.head _)))))) (by simp) (by simp [MapKept.IsKey]) (by first | exact rfl | exact trivial) (.hit _ (by simp; rfl)) ?_); (try simp only [Act.put, List.setIfInBounds_toArray, List.set_cons_zero, List.set_cons_succ]))
      | ((refine own_lookup (mt := 62) HO rfl rfl rfl (by first | exact .const | exact .tmp rfl | exact .func) Try.underlying62 Try.underlying3 Try.zeroValue3 (by first | exact .head _ | exact .tail _ (.head _) | exact .tail _ (.tail _ (.head _)) | exact .tail _ (.tail _ (.tail _ (.head _))) | exact .tail _ (.tail _ (.tail _ (.tail _ (.head _)))) | exact .tail _ (.tail _ (.tail _ (.tail _ (.tail _ (.head _)))))) (by simp) (by simp [MapKept.IsKey]) (by first | exact rfl | exact trivial) (HS.out) ?_); (try simp only [Act.put, List.setIfInBounds_toArray, List.set_cons_zero, List.set_cons_succ]))
      | ((refine own_box HO rfl rfl rfl ?_); clear HO; intro gN wN hgN HO; (simp only [List.nil_append, List.cons_append] at HO); (try simp only [Act.put, List.setIfInBounds_toArray, List.set_cons_zero, List.set_cons_succ]))
      | ((refine own_alloc (T := 23) HO rfl rfl Try.zeroValue23 rfl ?_); clear HO; intro gN wN hgN HO; (simp only [List.nil_append, List.cons_append] at HO); (try simp only [Act.put, List.setIfInBounds_toArray, List.set_cons_zero, List.set_cons_succ]))
      | ((refine own_alloc (T := 3) HO rfl rfl Try.zeroValue3 rfl ?_); clear HO; intro gN wN hgN HO; (simp only [List.nil_append, List.cons_append] at HO); (try simp only [Act.put, List.setIfInBounds_toArray, List.set_cons_zero, List.set_cons_succ]))
      | ((refine own_alloc (T := 4) HO rfl rfl Try.zeroValue4 rfl ?_); clear HO; intro gN wN hgN HO; (simp only [List.nil_append, List.cons_append] at HO); (try simp only [Act.put, List.setIfInBounds_toArray, List.set_cons_zero, List.set_cons_succ]))
      | ((refine own_load (T := 23) HO rfl rfl rfl (by first | exact .head _ | exact .tail _ (.head _) | exact .tail _ (.tail _ (.head _)) | exact .tail _ (.tail _ (.tail _ (.head _))) | exact .tail _ (.tail _ (.tail _ (.tail _ (.head _)))) | exact .tail _ (.tail _ (.tail _ (.tail _ (.tail _ (.head _)))))) Try.isAgg23 Try.sizeOf23 (by repeat constructor) ?_); (try simp only [Act.put, List.setIfInBounds_toArray, List.set_cons_zero, List.set_cons_succ]))
      | ((refine own_load1 (T := 3) HO rfl rfl rfl (by first | exact .head _ | exact .tail _ (.head _) | exact .tail _ (.tail _ (.head _)) | exact .tail _ (.tail _ (.tail _ (.head _))) | exact .tail _ (.tail _ (.tail _ (.tail _ (.head _)))) | exact .tail _ (.tail _ (.tail _ (.tail _ (.tail _ (.head _)))))) Try.isAgg3 rfl ?_); (try simp only [Act.put, List.setIfInBounds_toArray, List.set_cons_zero, List.set_cons_succ]))
      | ((refine own_load1 (T := 4) HO rfl rfl rfl (by first | exact .head _ | exact .tail _ (.head _) | exact .tail _ (.tail _ (.head _)) | exact .tail _ (.tail _ (.tail _ (.head _))) | exact .tail _ (.tail _ (.tail _ (.tail _ (.head _)))) | exact .tail _ (.tail _ (.tail _ (.tail _ (.tail _ (.head _)))))) Try.isAgg4 rfl ?_); (try simp only [Act.put, List.setIfInBounds_toArray, List.set_cons_zero, List.set_cons_succ]))
      | ((refine own_store (T := 23) HO rfl rfl rfl rfl (by first | exact .here | exact .there (.here) | exact .there (.there (.here)) | exact .there (.there (.there (.here))) | exact .there (.there (.there (.there (.here)))) | exact .there (.there (.there (.there (.there (.here)))))) Try.sizeOf23 (by repeat constructor) rfl ?_); clear HO; intro wN HO; (try simp only [Act.put, List.setIfInBounds_toArray, List.set_cons_zero, List.set_cons_succ]))
      | ((refine own_store (T := 3) HO rfl rfl rfl rfl (by first | exact .here | exact .there (.here) | exact .there (.there (.here)) | exact .there (.there (.there (.here))) | exact .there (.there (.there (.there (.here)))) | exact .there (.there (.there (.there (.there (.here)))))) Try.sizeOf3 (by repeat constructor) rfl ?_); clear HO; intro wN HO; (try simp only [Act.put, List.setIfInBounds_toArray, List.set_cons_zero, List.set_cons_succ]))
      | ((refine own_store (T := 4) HO rfl rfl rfl rfl (by first | exact .here | exact .there (.here) | exact .there (.there (.here)) | exact .there (.there (.there (.here))) | exact .there (.there (.there (.there (.here)))) | exact .there (.there (.there (.there (.there (.here)))))) Try.sizeOf4 (by repeat constructor) rfl ?_); clear HO; intro wN HO; (try simp only [Act.put, List.setIfInBounds_toArray, List.set_cons_zero, List.set_cons_succ])))))
      go_ret
      exact ⟨ret_int HGF.out.symm, HO.below⟩
  · have hE := equal_modes on m
    by_cases he : on = m
    · have hgf : getM m p n = 1 := by rw [HG.out]; simp [he]
      have HGF := Lib.hid hgf
      have hd : decide (on = m) = true := decide_eq_true he
      rw [hd] at hE
      have HE := Lib.hid hE
      clear HG hgf hE hd he
      go_wp2_with (first
      | ((with_reducible refine gate ?_); (first
      | ((refine own_eql (t := 23) rfl rfl rfl rfl (by kernel_rfl) HE.out ?_); (try simp only [Act.put, List.setIfInBounds_toArray, List.set_cons_zero, List.set_cons_succ]))
      | ((refine own_box HO rfl rfl rfl ?_); clear HO; intro gN wN hgN HO; (simp only [List.nil_append, List.cons_append] at HO); (try simp only [Act.put, List.setIfInBounds_toArray, List.set_cons_zero, List.set_cons_succ]))
      | ((refine own_alloc (T := 23) HO rfl rfl Try.zeroValue23 rfl ?_); clear HO; intro gN wN hgN HO; (simp only [List.nil_append, List.cons_append] at HO); (try simp only [Act.put, List.setIfInBounds_toArray, List.set_cons_zero, List.set_cons_succ]))
      | ((refine own_alloc (T := 3) HO rfl rfl Try.zeroValue3 rfl ?_); clear HO; intro gN wN hgN HO; (simp only [List.nil_append, List.cons_append] at HO); (try simp only [Act.put, List.setIfInBounds_toArray, List.set_cons_zero, List.set_cons_succ]))
      | ((refine own_alloc (T := 4) HO rfl rfl Try.zeroValue4 rfl ?_); clear HO; intro gN wN hgN HO; (simp only [List.nil_append, List.cons_append] at HO); (try simp only [Act.put, List.setIfInBounds_toArray, List.set_cons_zero, List.set_cons_succ]))
      | ((refine own_load (T := 23) HO rfl rfl rfl (by first | exact .head _ | exact .tail _ (.head _) | exact .tail _ (.tail _ (.head _)) | exact .tail _ (.tail _ (.tail _ (.head _))) | exact .tail _ (.tail _ (.tail _ (.tail _ (.head _)))) | exact .tail _ (.tail _ (.tail _ (.tail _ (.tail _ (.head _)))))) Try.isAgg23 Try.sizeOf23 (by repeat constructor) ?_); (try simp only [Act.put, List.setIfInBounds_toArray, List.set_cons_zero, List.set_cons_succ]))
      | ((refine own_load1 (T := 3) HO rfl rfl rfl (by first | exact .head _ | exact .tail _ (.head _) | exact .tail _ (.tail _ (.head _)) | exact .tail _ (.tail _ (.tail _ (.head _))) | exact .tail _ (.tail _ (.tail _ (.tail _ (.head _)))) | exact .tail _ (.tail _ (.tail _ (.tail _ (.tail _ (.head _)))))) Try.isAgg3 rfl ?_); (try simp only [Act.put, List.setIfInBounds_toArray, List.set_cons_zero, List.set_cons_succ]))
      | ((refine own_load1 (T := 4) HO rfl rfl rfl (by first | exact .head _ | exact .tail _ (.head _) | exact .tail _ (.tail _ (.head _)) | exact .tail _ (.tail _ (.tail _ (.head _))) | exact .tail _ (.tail _ (.tail _ (.tail _ (.head _)))) | exact .tail _ (.tail _ (.tail _ (.tail _ (.tail _ (.head _)))))) Try.isAgg4 rfl ?_); (try simp only [Act.put, List.setIfInBounds_toArray, List.set_cons_zero, List.set_cons_succ]))
      | ((refine own_store (T := 23) HO rfl rfl rfl rfl (by first | exact .here | exact .there (.here) | exact .there (.there (.here)) | exact .there (.there (.there (.here))) | exact .there (.there (.there (.there (.here)))) | exact .there (.there (.there (.there (.there (.here)))))) Try.sizeOf23 (by repeat constructor) rfl ?_); clear HO; intro wN HO; (try simp only [Act.put, List.setIfInBounds_toArray, List.set_cons_zero, List.set_cons_succ]))
      | ((refine own_store (T := 3) HO rfl rfl rfl rfl (by first | exact .here | exact .there (.here) | exact .there (.there (.here)) | exact .there (.there (.there (.here))) | exact .there (.there (.there (.there (.here)))) | exact .there (.there (.there (.there (.there (.here)))))) Try.sizeOf3 (by repeat constructor) rfl ?_); clear HO; intro wN HO; (try simp only [Act.put, List.setIfInBounds_toArray, List.set_cons_zero, List.set_cons_succ]))
      | ((refine own_store (T := 4) HO rfl rfl rfl rfl (by first | exact .here | exact .there (.here) | exact .there (.there (.here)) | exact .there (.there (.there (.here))) | exact .there (.there (.there (.there (.here)))) | exact .there (.there (.there (.there (.there (.here)))))) Try.sizeOf4 (by repeat constructor) rfl ?_); clear HO; intro wN HO; (try simp only [Act.put, List.setIfInBounds_toArray, List.set_cons_zero, List.set_cons_succ])))))
      go_ret
      exact ⟨ret_int HGF.out.symm, HO.below⟩
    · have hgf : getM m p n = 2 := by rw [HG.out]; simp [he]
      have HGF := Lib.hid hgf
      have hd : decide (on = m) = false := decide_eq_false he
      rw [hd] at hE
      have HE := Lib.hid hE
      clear HG hgf hE hd he
      go_wp2_with (first
      | ((with_reducible refine gate ?_); (first
      | ((refine own_eql (t := 23) rfl rfl rfl rfl (by kernel_rfl) HE.out ?_); (try simp only [Act.put, List.setIfInBounds_toArray, List.set_cons_zero, List.set_cons_succ]))
      | ((refine own_box HO rfl rfl rfl ?_); clear HO; intro gN wN hgN HO; (simp only [List.nil_append, List.cons_append] at HO); (try simp only [Act.put, List.setIfInBounds_toArray, List.set_cons_zero, List.set_cons_succ]))
      | ((refine own_alloc (T := 23) HO rfl rfl Try.zeroValue23 rfl ?_); clear HO; intro gN wN hgN HO; (simp only [List.nil_append, List.cons_append] at HO); (try simp only [Act.put, List.setIfInBounds_toArray, List.set_cons_zero, List.set_cons_succ]))
      | ((refine own_alloc (T := 3) HO rfl rfl Try.zeroValue3 rfl ?_); clear HO; intro gN wN hgN HO; (simp only [List.nil_append, List.cons_append] at HO); (try simp only [Act.put, List.setIfInBounds_toArray, List.set_cons_zero, List.set_cons_succ]))
      | ((refine own_alloc (T := 4) HO rfl rfl Try.zeroValue4 rfl ?_); clear HO; intro gN wN hgN HO; (simp only [List.nil_append, List.cons_append] at HO); (try simp only [Act.put, List.setIfInBounds_toArray, List.set_cons_zero, List.set_cons_succ]))
      | ((refine own_load (T := 23) HO rfl rfl rfl (by first | exact .head _ | exact .tail _ (.head _) | exact .tail _ (.tail _ (.head _)) | exact .tail _ (.tail _ (.tail _ (.head _))) | exact .tail _ (.tail _ (.tail _ (.tail _ (.head _)))) | exact .tail _ (.tail _ (.tail _ (.tail _ (.tail _ (.head _)))))) Try.isAgg23 Try.sizeOf23 (by repeat constructor) ?_); (try simp only [Act.put, List.setIfInBounds_toArray, List.set_cons_zero, List.set_cons_succ]))
      | ((refine own_load1 (T := 3) HO rfl rfl rfl (by first | exact .head _ | exact .tail _ (.head _) | exact .tail _ (.tail _ (.head _)) | exact .tail _ (.tail _ (.tail _ (.head _))) | exact .tail _ (.tail _ (.tail _ (.tail _ (.head _)))) | exact .tail _ (.tail _ (.tail _ (.tail _ (.tail _ (.head _)))))) Try.isAgg3 rfl ?_); (try simp only [Act.put, List.setIfInBounds_toArray, List.set_cons_zero, List.set_cons_succ]))
      | ((refine own_load1 (T := 4) HO rfl rfl rfl (by first | exact .head _ | exact .tail _ (.head _) | exact .tail _ (.tail _ (.head _)) | exact .tail _ (.tail _ (.tail _ (.head _))) | exact .tail _ (.tail _ (.tail _ (.tail _ (.head _)))) | exact .tail _ (.tail _ (.tail _ (.tail _ (.tail _ (.head _)))))) Try.isAgg4 rfl ?_); (try simp only [Act.put, List.setIfInBounds_toArray, List.set_cons_zero, List.set_cons_succ]))
      | ((refine own_store (T := 23) HO rfl rfl rfl rfl (by first | exact .here | exact .there (.here) | exact .there (.there (.here)) | exact .there (.there (.there (.here))) | exact .there (.there (.there (.there (.here)))) | exact .there (.there (.there (.there (.there (.here)))))) Try.sizeOf23 (by repeat constructor) rfl ?_); clear HO; intro wN HO; (try simp only [Act.put, List.setIfInBounds_toArray, List.set_cons_zero, List.set_cons_succ]))
      | ((refine own_store (T := 3) HO rfl rfl rfl rfl (by first | exact .here | exact .there (.here) | exact .there (.there (.here)) | exact .there (.there (.there (.here))) | exact .there (.there (.there (.there (.here)))) | exact .there (.there (.there (.there (.there (.here)))))) Try.sizeOf3 (by repeat constructor) rfl ?_); clear HO; intro wN HO; (try simp only [Act.put, List.setIfInBounds_toArray, List.set_cons_zero, List.set_cons_succ]))
      | ((refine own_store (T := 4) HO rfl rfl rfl rfl (by first | exact .here | exact .there (.here) | exact .there (.there (.here)) | exact .there (.there (.there (.here))) | exact .there (.there (.there (.there (.here)))) | exact .there (.there (.there (.there (.there (.here)))))) Try.sizeOf4 (by repeat constructor) rfl ?_); clear HO; intro wN HO; (try simp only [Act.put, List.setIfInBounds_toArray, List.set_cons_zero, List.set_cons_succ])))))
      go_ret
      exact ⟨ret_int HGF.out.symm, HO.below⟩
end Go.Proofs.Ytllloedhlcdbjaa
end
