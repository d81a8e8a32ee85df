/- U: texts run together by shake.py: KitL SvA SvB MoD AwA KitN SvC SvE SvD AwS FrS KitO RgL SvQ WTab WFoot WKept WShare WN WRepsOne WInv WMore SvU SvW KitV KitW SvX. -/
import Derived.ArgAppend
import Derived.Below
import Derived.BigQuiet
import Derived.ChangeKeysEq
import Derived.ChangeOld
import Derived.ChangeSlices
import Derived.Deep.AppendLies
import Derived.Deep.CutBlock
import Derived.Deep.DeepCutAuto
import Derived.Deep.Draws
import Derived.Deep.LoopGhost
import Derived.Deep.OwnRows
import Derived.Deep.Quiet
import Derived.Deep.QuietTactic
import Derived.Deep.RegionHeld3
import Derived.Ground.GgzProg
import Derived.Ground.SlgmProg
import Derived.KernelRfl
import Derived.Laws.AppendOwn
import Derived.Laws.AppendOwnNone
import Derived.Laws.BitsLemmas
import Derived.Laws.BytesArg
import Derived.Laws.CopyRow
import Derived.Laws.IdiomCopy
import Derived.Laws.IdiomStrings
import Derived.Laws.MakeOwn
import Derived.Laws.OwnMore
import Derived.Laws.Rows
import Derived.Laws.Slices
import Derived.Laws.StructEq
import Derived.Laws.Tables
import Derived.Lib.AppendStr
import Derived.Lib.ConvBytes
import Derived.Lib.Hide
import Derived.Lib.SlKeysI
import Derived.LoopIn
import Derived.LoopNIn
import Derived.MapKept
import Derived.Maps.AppendAt
import Derived.Maps.Own
import Derived.OpenShut
import Derived.Orders
import Derived.OrdersHeld
import Derived.OrdersIn
import Derived.Outline
import Derived.OwnWalk
import Derived.OwnWalkIn
import Derived.ProofKit
import Derived.RangeFuncBound
import Derived.RangeFuncBox
import Derived.RangeFuncCalls
import Derived.RangeFuncLeaves
import Derived.RangeFuncNested
import Derived.RangeFuncWrites
import Derived.RowKit
import Derived.RowKit3
import Derived.Shelf.Abstract
import Derived.Shelf.RegionOpen
import Derived.Shelf.SlIterI.Nil
import Derived.Shelf.Slices.Turned
import Derived.Shelf.SortM.Plain
import Derived.Shelf.SortM.SortNone
import Derived.Shelf.Strconv.Itoa0
import Derived.ShutString
import Derived.SizedLaws
import Derived.Still
import Derived.Tactics
import Derived.TacticsIn
import Derived.TacticsInMore
import Derived.Test.YtllloedhlcdbjaaProg
import Derived.Test.YtllloedhlcdbjaaRows
import Derived.WalkKit
import Derived.WalkLawsBesides
import Derived.WalkSpells
import Derived.WideLaws
import Derived.Test.YtllloedhlcdbjaaZU1
section
namespace Go.Proofs.Ytllloedhlcdbjaa.Kit
set_option linter.unusedVariables false
set_option linter.unusedSimpArgs false
open Go Go.RowKit
abbrev FW (l : Nat) : Fence := Fence.wide.inRound l
section
variable {P : Program} {ops : Array Oper} {Q : Exit → Act → World → Prop} {a : Act} {w : World} {o : Oper} {rr n : Nat}
theorem rowsIn_w {row : String} {args : Array Value} {R : Value → World → Prop} (h : Rows P row args w R) : RowsIn (FW rr) n P row args w R :=
  fun c cs _ => let ⟨v, w', r, s⟩ := h c cs; ⟨v, w', r, stepsIn_wide.2 s⟩
theorem callsIn_w {f : FuncId} {args : Array Value} {R : Ending → World → Prop} (h : Calls P f args w R) : CallsIn (FW rr) n P f args w R := CallsIn.inRound rr (callsIn_wide.2 h)
theorem uponIn_of {next next' : Act → World → Prop} (hn : ∀ a w, next a w → next' a w) {r : Result Next} (h : o.upon P a next Q r) : o.uponIn (FW rr) n P a next' Q r := by
  cases r with
  | ok x w' =>
    cases x <;> simp only [Oper.upon] at h <;> simp only [Oper.uponIn]
    case value v => exact hn _ _ h
    case skip => exact hn _ _ h
    case defer d => exact hn _ _ h
    case enter f args => exact ⟨fun e => by simp [Fence.wide] at e, callsIn_w (h.mono fun e w'' he => by cases e <;> first | exact hn _ _ he | exact he)⟩
    case row row args => exact ⟨fun e => by simp [Fence.wide] at e, rowsIn_w (Rows.mono h fun _ _ he => hn _ _ he)⟩
  | halt x w' => cases x <;> simp only [Oper.upon] at h <;> simp only [Oper.uponIn] <;> exact h
def noDefer (o : Oper) : Bool := match o.op with | .defer _ => false | _ => true
theorem noDefer_ne (h : noDefer o = true) : ∀ c, o.op ≠ .defer c := fun c e => by simp [noDefer, e] at h
theorem wpListIn_of (hL : ¬ LetsOut Q) : ∀ (l : List Oper) (a : Act) (w : World), l.all noDefer = true → wpList P ops Q l a w → wpListIn (FW rr) n P ops Q l a w
  | [], _, _, _, h => h
  | o :: l, a, w, hd, h => by
    rw [List.all_cons, Bool.and_eq_true] at hd
    unfold wpList at h
    unfold wpListIn
    split
    · rename_i hw
      rw [if_pos hw] at h
      refine ⟨fun _ _ => trivial, ?_⟩
      rw [show (FW rr).round = some rr from rfl, Oper.semAt_eq (some rr) a.eval o (noDefer_ne hd.1)]
      exact uponIn_of (fun a w => wpListIn_of hL l a w hd.2) (h.resolve_right fun e => hL e.2)
    · rename_i hw
      rw [if_neg hw] at h
      exact ⟨fun _ _ => trivial, wpListIn_of hL l _ _ hd.2 h⟩
theorem inRegion {id : Nat} {l : List Oper} (hL : ¬ LetsOut Q) (hd : l.all noDefer = true) (h : wpList P l.toArray Q l a w) : (Code.region id l.toArray false).wpIn (FW rr) n P Q a w :=
  wpIn_region_lit (wpListIn_of hL l a w hd h)
theorem wpOpIn_of_step {i : Nat} {A : Act} {K : Value → World → Prop} {K' : Act → World → Prop} (ho : ops[i]? = some o) (hd : noDefer o = true)
    (he : execOp A.eval o = execOp a.eval o) (hw : Region.wanted o (yielded ops A.tmps) = Region.wanted o (yielded ops a.tmps))
    (h : StepOk P ops o A w K) (hK : ∀ v w', K v w' → K' (a.put o.dst v) w') : wpOpIn (FW rr) n P ops Q i K' a w := by
  unfold StepOk at h
  rw [he, hw] at h
  unfold wpOpIn
  rw [ho]
  show if Region.wanted o (yielded ops a.tmps) = true then _ else _
  split
  · rename_i hwa
    rw [if_pos hwa] at h
    refine ⟨fun _ _ => trivial, ?_⟩
    rw [show (FW rr).round = some rr from rfl, Oper.semAt_eq (some rr) a.eval o (noDefer_ne hd)]
    generalize (execOp a.eval o).run P w = r at h
    cases r with
    | ok n w' =>
      cases n <;> simp only [StepUpon] at h <;> simp only [Oper.uponIn]
      case value v => exact hK _ _ h
      case skip => exact hK _ _ h
      case enter f args => exact ⟨fun e => by simp [Fence.wide] at e, callsIn_w (h.mono fun e w'' he => by obtain ⟨v, rfl, hk⟩ := he; exact hK _ _ hk)⟩
    | halt x w' => simp only [StepUpon] at h
  · rename_i hwa
    rw [if_neg hwa] at h
    exact ⟨fun _ _ => trivial, hK _ _ h⟩
theorem wpAnyIn_inv (hN : ops.toList.all noDefer = true) (hB : anyOk ops = true) (a0 : Act) (C : List Nat → (Nat → Value) → World → Prop)
    (hstep : ∀ i o js vals w, ops[i]? = some o → i ∉ js → (∀ j, waits ops o j = true → j ∈ js) → C js vals w →
      StepOk P ops o (fillL ops vals (List.range ops.size) a0) w fun v w' => C (js ++ [i]) (Vset vals i v) w')
    (hend : ∀ js vals w, (∀ i < ops.size, i ∈ js) → C js vals w → Q .normal (fillL ops vals (List.range ops.size) a0) w) :
    ∀ (fuel : Nat) (js : List Nat) (listed : Array Bool) (vals : Nat → Value) (w : World), js.Nodup → (∀ j ∈ js, j < ops.size) →
      (∀ j < ops.size, listed.getD j true = decide (j ∈ js) ∧ listed.getD j false = decide (j ∈ js)) → listed.size = ops.size → js.length + fuel = ops.size → Closed ops js → C js vals w →
      wpAnyIn (FW rr) n P .any ops Q fuel listed (fillL ops vals js a0) w := by
  simp only [anyOk, Bool.and_eq_true] at hB
  obtain ⟨hS, hD, hE⟩ := hB
  have fin : ∀ (js : List Nat) (vals : Nat → Value) (w : World), js.Nodup → (∀ j ∈ js, j < ops.size) → (∀ i < ops.size, i ∈ js) → C js vals w → Q .normal (fillL ops vals js a0) w := by
    intro js vals w hn hlt hall hC
    have hp : js.Perm (List.range ops.size) := (List.perm_ext_iff_of_nodup hn List.nodup_range).2 fun j => ⟨fun h => List.mem_range.2 (hlt j h), fun h => hall j (List.mem_range.1 h)⟩
    rw [fillL_perm hD vals hp hn hlt a0]
    exact hend js vals w hall hC
  have none_ready : ∀ (js : List Nat) (listed : Array Bool), (∀ j < ops.size, listed.getD j true = decide (j ∈ js) ∧ listed.getD j false = decide (j ∈ js)) → Region.ready .any ops listed = [] → ∀ i < ops.size, i ∈ js := by
    intro js listed hl hr i
    induction i using Nat.strongRecOn with
    | _ i ih =>
      intro hi
      apply Classical.byContradiction
      intro hni
      have hmem : i ∈ Region.ready .any ops listed := by
        refine mem_ready.2 ⟨by rw [(hl i hi).1]; simpa using hni, ops[i], by simp [hi], fun e he hb => ?_⟩
        have hlt := (depsOk_spec hE (i := i) (o := ops[i]) (by simp [hi])).1 e he hb
        rw [(hl e.on (by omega)).2]
        simpa using ih e.on hlt (by omega)
      rw [hr] at hmem
      cases hmem
  intro fuel
  induction fuel with
  | zero =>
    intro js listed vals w hn hlt hl hsz hc hcl hC
    have hall : ∀ i < ops.size, i ∈ js := by
      intro i hi
      apply Classical.byContradiction
      intro hni
      have h1 := nodup_len (i :: js) (List.range ops.size) (List.nodup_cons.2 ⟨hni, hn⟩) (fun j hj => by
        rcases List.mem_cons.1 hj with rfl | h
        · exact List.mem_range.2 hi
        · exact List.mem_range.2 (hlt j h))
      simp at h1
      omega
    refine ⟨?_, fin js vals w hn hlt hall hC⟩
    cases hr : Region.ready .any ops listed with
    | nil => rfl
    | cons j rs =>
      have hj : j ∈ Region.ready .any ops listed := by rw [hr]; simp
      obtain ⟨h0, o, ho, _⟩ := mem_ready.1 hj
      have hjl : j < ops.size := (Array.getElem?_eq_some_iff.1 ho).1
      rw [(hl j hjl).1] at h0
      exact absurd (hall j hjl) (by simpa using h0)
  | succ fuel ih =>
    intro js listed vals w hn hlt hl hsz hc hcl hC
    refine ⟨fun hr => fin js vals w hn hlt (none_ready js listed hl hr) hC, fun i hi => ?_⟩
    obtain ⟨h0, o, ho, hafter⟩ := mem_ready.1 hi
    have hil : i < ops.size := (Array.getElem?_eq_some_iff.1 ho).1
    rw [(hl i hil).1] at h0
    have hni : i ∉ js := by simpa using h0
    have hdeps : ∀ e ∈ o.after, Region.binds .any e = true → e.on ∈ js := fun e he hb => by
      have h1 := hafter e he hb
      have hlt' := (depsOk_spec hE ho).1 e he hb
      rw [(hl e.on (by omega)).2] at h1
      simpa using h1
    have hsel : ∀ cs b, o.op ≠ .select cs b := fun cs b => Region.noSelect_spec hS i o cs b ho
    obtain ⟨rest, hrest⟩ : ∃ rest, rest = (List.range ops.size).filter fun j => decide (j ∉ js) := ⟨_, rfl⟩
    have hperm : (js ++ rest).Perm (List.range ops.size) := by
      refine (List.perm_ext_iff_of_nodup ?_ List.nodup_range).2 fun j => ?_
      · rw [List.nodup_append]
        refine ⟨hn, by rw [hrest]; exact List.nodup_range.filter _, fun x hx y hy e => ?_⟩
        subst e
        rw [hrest] at hy
        simp at hy
        exact hy.2 hx
      · rw [List.mem_append, hrest]
        simp only [List.mem_filter, List.mem_range, decide_eq_true_eq]
        constructor
        · rintro (h | h)
          · exact hlt j h
          · exact h.1
        · intro h
          by_cases hj : j ∈ js
          · exact .inl hj
          · exact .inr ⟨h, hj⟩
    have hnd : (js ++ rest).Nodup := hperm.nodup_iff.2 List.nodup_range
    have hall : ∀ j ∈ js ++ rest, j < ops.size := fun j hj => List.mem_range.1 (hperm.mem_iff.1 hj)
    have hwhole : fillL ops vals (List.range ops.size) a0 = fillL ops vals rest (fillL ops vals js a0) := by
      rw [← fillL_perm hD vals hperm hnd hall a0, fillL_append]
    obtain ⟨he, hw⟩ := exec_fill (ops := ops) o hsel vals rest (fun j hj d hd hmem => by
      have hjr : j < ops.size ∧ j ∉ js := by rw [hrest] at hj; simpa using hj
      obtain ⟨e, he, hb, heq⟩ := (depsOk_spec hE ho).2 j hjr.1 d hd hmem
      exact hjr.2 (heq ▸ hdeps e he hb)) (fillL ops vals js a0)
    rw [← hwhole] at he hw
    have hwaits : ∀ j, waits ops o j = true → j ∈ js := fun j hj => by
      obtain ⟨e, he, hp⟩ := List.any_eq_true.1 hj
      simp only [Bool.and_eq_true] at hp
      exact reachB_mem hcl 2 e.on j (hdeps e (by simpa using he) hp.1) hp.2
    refine wpOpIn_of_step ho (List.all_eq_true.1 hN o (Array.mem_toList_iff.2 (Array.mem_of_getElem? ho))) he hw (hstep i o js vals w ho hni hwaits hC) fun v w' hK => ?_
    have hdst : o.dst = dstOf ops i := by simp [dstOf, ho]
    have hnext : (fillL ops vals js a0).put o.dst v = fillL ops (Vset vals i v) (js ++ [i]) a0 := by
      rw [fillL_append, fillL_vset vals i v js hni, hdst]
      show _ = (fillL ops vals js a0).put (dstOf ops i) (Vset vals i v i)
      rw [Vset_same]
    rw [hnext]
    refine ih (js ++ [i]) (listed.setIfInBounds i true) (Vset vals i v) w' ?_ ?_ ?_ (by simpa using hsz) (by simp; omega) ?_ hK
    · rw [List.nodup_append]
      refine ⟨hn, by simp, fun x hx y hy e => ?_⟩
      simp at hy
      subst hy
      exact hni (e ▸ hx)
    · intro j hj
      rcases List.mem_append.1 hj with h | h
      · exact hlt j h
      · simp at h; omega
    · intro j hj
      by_cases hji : j = i
      · subst hji
        simp [hsz ▸ hj]
      · have := hl j hj
        rw [getD_set_ne true (Ne.symm hji), getD_set_ne false (Ne.symm hji)]
        simpa [hji] using this
    · intro j hj o' ho' e he hb
      rcases List.mem_append.1 hj with h | h
      · exact List.mem_append_left _ (hcl j h o' ho' e he hb)
      · simp at h
        subst h
        rw [ho] at ho'
        cases ho'
        exact List.mem_append_left _ (hdeps e he hb)
theorem wpIn_region_inv (hN : ops.toList.all noDefer = true) {id : Nat} {a0 : Act} {w0 : World} (hm : P.follows .mixedOrders = true) (hB : anyOk ops = true) (C : List Nat → (Nat → Value) → World → Prop)
    (h0 : C [] (fun _ => undef) w0.drew)
    (hstep : ∀ i o js vals w, ops[i]? = some o → i ∉ js → (∀ j, waits ops o j = true → j ∈ js) → C js vals w →
      StepOk P ops o (fillL ops vals (List.range ops.size) a0) w fun v w' => C (js ++ [i]) (Vset vals i v) w')
    (hend : ∀ js vals w, (∀ i < ops.size, i ∈ js) → C js vals w → Q .normal (fillL ops vals (List.range ops.size) a0) w) :
    (Code.region id ops true).wpIn (FW rr) n P Q a0 w0 := by
  refine wpIn_region_any hm ?_
  have := wpAnyIn_inv (P := P) (Q := Q) (rr := rr) (n := n) hN hB a0 C hstep hend ops.size [] (Array.replicate ops.size false) (fun _ => undef) w0.drew List.nodup_nil (by simp) (by intro j hj; simp [hj]) (by simp) (by simp) (fun j hj => by cases hj) h0
  exact this
theorem region_putIn {l : List Oper} (hN : l.all noDefer = true) (s : Nat) (os : Oper) (fs fs' : List Fact) {id : Nat} {a0 : Act} {W0 w0 : World} {bs bs' : Res} (HO : Mine W0 w0 bs) (hm : P.follows .mixedOrders = true) (hB : anyOk l.toArray = true) (hso : l[s]? = some os)
    (hs : ∀ p ∈ fs, Stays p) (hs' : ∀ p ∈ fs', Stays p)
    (h : ∀ vals A, A = fillL l.toArray vals (List.range l.length) a0 →
      eachFrom (Owes P l s os W0 w0 bs bs' fs fs' vals A) 0 l ∧
      ∀ w, (∀ i < l.length, Facts fs' i (vals i) w) → Mine W0 w bs' → Q .normal A w) :
    (Code.region id l.toArray true).wpIn (FW rr) n P Q a0 w0 := by
  refine wpIn_region_inv (by simpa using hN) hm hB (fun js vals w => (s ∉ js ∧ (∀ j ∈ js, Facts fs j (vals j) w) ∧ Mine W0 w bs ∧ Below w0.heap.size w0 w) ∨
    (s ∈ js ∧ (∀ j ∈ js, Facts fs' j (vals j) w) ∧ Mine W0 w bs' ∧ ∀ j, waits l.toArray os j = true → j ∈ js)) ?_ ?_ ?_
  · exact .inl ⟨by simp, by simp, HO.drew, (Below.refl _ _).drew⟩
  · intro i o js vals w ho hni hdeps hC
    have hA := h vals _ rfl
    have hi := eachFrom_spec hA.1 i o (by simpa using ho)
    rw [Nat.zero_add] at hi
    have hsz : l.toArray.size = l.length := by simp
    rw [hsz]
    unfold Owes at hi
    by_cases his : i = s
    · subst his
      rw [if_pos rfl] at hi
      rcases hC with ⟨h1, h2, h3, h4⟩ | ⟨h1, _⟩
      · have e : o = os := by
          have : l[i]? = some o := by simpa using ho
          rw [hso] at this
          exact (Option.some.inj this).symm
        subst e
        refine (hi w (fun j hj => h2 j (hdeps j hj)) h3 h4).mono fun v w' ⟨k1, k3, k4⟩ => .inr ⟨by simp, fun j hj => ?_, k1, fun j hj => List.mem_append_left _ (hdeps j hj)⟩
        rcases List.mem_append.1 hj with hj | hj
        · have hne : j ≠ i := fun e => hni (e ▸ hj)
          rw [Vset_other _ _ hne]
          exact k4 j hne (h2 j hj)
        · rw [List.mem_singleton.1 hj, Vset_same]
          exact k3
      · exact absurd h1 hni
    · rw [if_neg his] at hi
      rcases hC with ⟨h1, h2, h3, h4⟩ | ⟨h1, h2, h3, h5⟩
      · have key : ∀ {v w'}, Below w.heap.size w w' → Facts fs i v w' → (s ∉ js ++ [i] ∧ (∀ j ∈ js ++ [i], Facts fs j (Vset vals i v j) w') ∧ Mine W0 w' bs ∧ Below w0.heap.size w0 w') := by
          intro v w' hb hf
          refine ⟨by simp [h1]; exact fun e => his e.symm, fun j hj => ?_, h3.call hb, h4.trans (hb.mono h4.size)⟩
          rcases List.mem_append.1 hj with hj | hj
          · have hne : j ≠ i := fun e => hni (e ▸ hj)
            rw [Vset_other _ _ hne]
            exact Facts.stays hs j _ _ _ (h2 j hj) hb
          · rw [List.mem_singleton.1 hj, Vset_same]
            exact hf
        by_cases hw : waits l.toArray os i = true
        · rw [if_pos hw] at hi
          exact (hi w (fun j hj => h2 j (hdeps j hj)) h3 h4).mono fun v w' ⟨k1, k2⟩ => .inl (key k1 k2)
        · rw [if_neg hw] at hi
          exact (hi w (fun j hj => .inl (h2 j (hdeps j hj)))).mono fun v w' ⟨k1, k2, k3⟩ => by subst k1; exact .inl (key (Below.refl _ _) k2)
      · have hw : ¬ waits l.toArray os i = true := fun e => hni (h5 i e)
        rw [if_neg hw] at hi
        refine (hi w (fun j hj => .inr (h2 j (hdeps j hj)))).mono fun v w' ⟨k1, k2, k3⟩ => ?_
        subst k1
        refine .inr ⟨by simp [h1], fun j hj => ?_, h3, fun j hj => List.mem_append_left _ (h5 j hj)⟩
        rcases List.mem_append.1 hj with hj | hj
        · have hne : j ≠ i := fun e => hni (e ▸ hj)
          rw [Vset_other _ _ hne]
          exact h2 j hj
        · rw [List.mem_singleton.1 hj, Vset_same]
          exact k3
  · intro js vals w hall hC
    have hsz : l.toArray.size = l.length := by simp
    rw [hsz]
    have hA := h vals _ rfl
    have hsl : s < l.length := (List.getElem?_eq_some_iff.1 hso).1
    rcases hC with ⟨h1, _⟩ | ⟨h1, h2, h3, _⟩
    · exact absurd (hall s (by simpa using hsl)) h1
    · exact hA.2 w (fun i hi => h2 i (hall i (by simpa using hi))) h3
theorem mine_own {β : Type} {B : Nat} {W0 : World} (bs : β → Res) (hc : ∀ s, ∀ p ∈ bs s, ∀ o, p.2 o → o.isCells = true) (hB : W0.heap.size ≤ B) : OwnFrom B (fun s W => Mine W0 W (bs s)) := by
  intro s W W' row hM hg hr
  refine ⟨hM.below.grown hg hM.below.size (fun k e => Nat.le_trans hB (hr k e).1), hM.nodup, fun p hp => ?_⟩
  obtain ⟨h1, o, h2, h3⟩ := hM.held p hp
  refine ⟨h1, o, (hg.block p.1 (hM.lt hp) (fun e => ?_)).trans h2, h3⟩
  obtain ⟨_, o', ho', hn⟩ := hr p.1 e.symm
  rw [h2] at ho'
  cases ho'
  rw [hc s p hp o h3] at hn
  cases hn
theorem cells_isCells {cs : List Value} {T : TypeId} {o : Obj} (h : IsCells cs T o) : o.isCells = true := by rw [show o = _ from h]; rfl
end
end Go.Proofs.Ytllloedhlcdbjaa.Kit
end
section
namespace Go.Proofs.Ytllloedhlcdbjaa
set_option linter.unusedVariables false
set_option linter.unusedSimpArgs false
open Go.RowKit Kit Go.Shelf Go.Proofs.YtllloedhlcdbjaaW.PrintWords
def HasCells (w : World) (g : Nat) (cs : List Value) (T : TypeId) : Prop := w.heap[g]? = some (.cells cs.toArray T (0, 0))
structure Keep (g : Nat) (A B : World) : Prop where
  size : A.heap.size ≤ B.heap.size
  same : ∀ k, k < A.heap.size → k ≠ g → B.heap[k]? = A.heap[k]?
theorem Keep.refl (g : Nat) (A : World) : Keep g A A := ⟨Nat.le_refl _, fun _ _ _ => rfl⟩
theorem Keep.below {g : Nat} {A B C : World} (h : Keep g A B) (hb : Below B.heap.size B C) : Keep g A C :=
  ⟨Nat.le_trans h.size hb.size, fun k hk hne => (hb.block k (Nat.lt_of_lt_of_le hk h.size)).trans (h.same k hk hne)⟩
def Kp (n1 g : Nat) (A B : World) : Prop := ∀ k o, k < n1 → k ≠ g → A.heap[k]? = some o → B.heap[k]? = some o
theorem Kp.refl (n1 g : Nat) (A : World) : Kp n1 g A A := fun _ _ _ _ h => h
theorem Kp.trans {n1 g : Nat} {A B C : World} (h : Kp n1 g A B) (k : Kp n1 g B C) : Kp n1 g A C := fun i o h1 h2 h3 => k i o h1 h2 (h i o h1 h2 h3)
theorem Keep.kp {g : Nat} {A B : World} (h : Keep g A B) (n1 : Nat) : Kp n1 g A B := fun k o _ h2 h3 => (h.same k (Array.getElem?_eq_some_iff.1 h3).1 h2).trans h3
theorem Keep.from {g B0 : Nat} {A B : World} (h : Keep g A B) (hg : g < B0) : KeepsFrom B0 A B :=
  ⟨h.size, fun k o hB hk _ => (h.same k (Array.getElem?_eq_some_iff.1 hk).1 (by omega)).trans hk⟩
theorem Kp.cell {n1 g : Nat} {A B : World} (h : Kp n1 g A B) {p : Addr} {v : Value} (hc : A.cell? p = some v) (hp : p.block < n1) (hne : p.block ≠ g) : B.cell? p = some v := by
  have hlt := World.block_lt_of_cell? A _ hc
  have h1 : A.heap[p.block]? = some A.heap[p.block] := by simp [hlt]
  have h2 := h _ _ hp hne h1
  unfold World.cell? at hc ⊢
  rw [h1] at hc
  rw [h2]
  exact hc
theorem HasCells.cell {w : World} {g : Nat} {v : Value} {T : TypeId} (h : HasCells w g [v] T) : w.cell? ⟨g, 0, none⟩ = some v := by
  unfold HasCells at h
  simp [World.cell?, h]
def pairO (n : Int) : Option (Fin 12 × Int) := if h : 0 ≤ idxI ownL n ∧ idxI ownL n < 12 then some (⟨(idxI ownL n).toNat, by omega⟩, n) else none
def pairsL (l : List Int) : List (Fin 12 × Int) := l.filterMap pairO
theorem idx_fin {n : Int} (h : 0 ≤ idxI ownL n) : ∃ j : Fin 12, idxI ownL n = (j.val : Int) ∧ pairO n = some (j, n) := by
  have h2 : idxI ownL n < 12 := (idxI_range ownL n).2
  refine ⟨⟨(idxI ownL n).toNat, by omega⟩, by simp; omega, ?_⟩
  unfold pairO
  rw [dif_pos ⟨h, h2⟩]
theorem idx_none {n : Int} (h : ¬ 0 ≤ idxI ownL n) : pairO n = none := by
  unfold pairO
  rw [dif_neg (fun e => h e.1)]
attribute [local irreducible] wpList Calls wpQuiet
def PlAns (W w' : World) (sv : Value) (v : Value) : Prop := ∃ g1 g3 gL cap rest, v = .func (.func 41) #[] #[.pointer (some ⟨g1, 0, none⟩), .pointer (some ⟨g3, 0, none⟩)] ∧ W.heap.size ≤ g1 ∧ W.heap.size ≤ g3 ∧ W.heap.size ≤ gL ∧
  HasCells w' g1 [sv] 28 ∧ HasCells w' g3 [.slice (some ⟨gL, 0, none⟩) 12 cap] 28 ∧ HasCells w' gL (ownL.map (Value.int .i64) ++ rest) 3 ∧ 12 ≤ cap
set_option maxRecDepth 100000 in
set_option maxHeartbeats 4000000 in
theorem places_calls (A : Option Addr) (n c : Nat) (w : World) : Calls Try.prog 31 #[.slice A n c] w fun e w' => ∃ v, e = .returned v ∧ PlAns w w' (.slice A n c) v ∧ Below w.heap.size w w' := by
  have HO := Mine.start w
  go_enter Try.func31, Try.ntmps31
  go_wp2_with (first
      | (go_at_call 14; refine (own_calls _).mono ?_; rintro eN wN ⟨v, rfl, ⟨gL, cpgL, rsL, rfl, hge, hgL, hcp⟩, hbN⟩; have HCP := Lib.hid hcp; clear hcp; have HON := (HO.call hbN).take (p := IsCells (Value.int .i64 1 :: Value.int .i64 9 :: Value.int .i64 66 :: Value.int .i64 67 :: Value.int .i64 1000 :: Value.int .i64 1002 :: Value.int .i64 1003 :: Value.int .i64 1004 :: Value.int .i64 1005 :: Value.int .i64 1006 :: Value.int .i64 1015 :: Value.int .i64 2004 :: rsL) 3) (fun q hq => HO.lt hq) HO.below.size hge ⟨_, hgL, rfl⟩; clear HO hbN hgL hge; have HO := HON; clear HON; (simp only [List.nil_append, List.cons_append] at HO))
      | ((with_reducible refine gate ?_); (first
      | ((refine own_box HO rfl rfl rfl ?_); clear HO; intro gB wN hgN HO; (simp only [List.nil_append, List.cons_append] at HO); (try simp only [Act.put, List.setIfInBounds_toArray, List.set_cons_zero, List.set_cons_succ]))
      | ((refine own_alloc (T := 28) HO rfl rfl Try.zeroValue28 rfl ?_); clear HO; intro gA wN hgA HO; (simp only [List.nil_append, List.cons_append] at HO); (try simp only [Act.put, List.setIfInBounds_toArray, List.set_cons_zero, List.set_cons_succ]))
      | ((refine own_load1 (T := 28) HO rfl rfl rfl (by first | exact .head _ | exact .tail _ (.head _) | exact .tail _ (.tail _ (.head _)) | exact .tail _ (.tail _ (.tail _ (.head _))) | exact .tail _ (.tail _ (.tail _ (.tail _ (.head _)))) | exact .tail _ (.tail _ (.tail _ (.tail _ (.tail _ (.head _)))))) Try.isAgg28 rfl ?_); (try simp only [Act.put, List.setIfInBounds_toArray, List.set_cons_zero, List.set_cons_succ]))
      | ((refine own_store (T := 28) HO rfl rfl rfl rfl (by first | exact .here | exact .there (.here) | exact .there (.there (.here)) | exact .there (.there (.there (.here))) | exact .there (.there (.there (.there (.here)))) | exact .there (.there (.there (.there (.there (.here)))))) Try.sizeOf28 (by repeat constructor) rfl ?_); clear HO; intro wN HO; (try simp only [Act.put, List.setIfInBounds_toArray, List.set_cons_zero, List.set_cons_succ])))))
  go_ret
  exact ⟨_, rfl, ⟨gB, gA, gL, cpgL, rsL, rfl, (HO.held _ (.head _)).1, (HO.held _ (.tail _ (.tail _ (.head _)))).1, (HO.held _ (.tail _ (.head _))).1, HO.at (.head _), HO.at (.tail _ (.tail _ (.head _))), HO.at (.tail _ (.head _)), HCP.out⟩, HO.below⟩
end Go.Proofs.Ytllloedhlcdbjaa
end
section
namespace Go.Proofs.Ytllloedhlcdbjaa
set_option linter.unusedVariables false
set_option linter.unusedSimpArgs false
open Go.RowKit Kit Go.Shelf Go.Proofs.YtllloedhlcdbjaaW.PrintWords
attribute [local go_sem] Oper.semAt_some
theorem add_block (ad : Addr) (j : Nat) : (ad.add j).block = ad.block := by unfold Addr.add; split <;> rfl
theorem pairs_in {l : List Int} {k : Nat} (hk : k < l.length) {x : Int} (hx : l.getD k 0 = x) {j : Fin 12} (h : pairO x = some (j, x)) : pairsL (l.take (k + 1)) = pairsL (l.take k) ++ [(j, x)] := by
  have e : l[k] = x := by rw [← hx]; simp [List.getD, hk]
  rw [List.take_succ_eq_append_getElem hk, pairsL, List.filterMap_append, e]
  simp [h, pairsL]
theorem pairs_out {l : List Int} {k : Nat} (hk : k < l.length) {x : Int} (hx : l.getD k 0 = x) (h : pairO x = none) : pairsL (l.take (k + 1)) = pairsL (l.take k) := by
  have e : l[k] = x := by rw [← hx]; simp [List.getD, hk]
  rw [List.take_succ_eq_append_getElem hk, pairsL, List.filterMap_append, e]
  simp [h, pairsL]
theorem pairs_lt {l : List Int} {k : Nat} (hk : k < l.length) {x : Int} (hx : l.getD k 0 = x) {j : Fin 12} (h : pairO x = some (j, x)) : (pairsL (l.take k)).length < (pairsL l).length := by
  have h1 := pairs_in hk hx h
  have h2 : pairsL (l.take (k + 1) ++ l.drop (k + 1)) = pairsL (l.take (k + 1)) ++ pairsL (l.drop (k + 1)) := List.filterMap_append
  rw [List.take_append_drop] at h2
  rw [h2, h1]
  simp
theorem pairs_pre (l : List Int) (k : Nat) : pairsL (l.take k) <+: pairsL l := by
  have h2 : pairsL (l.take k ++ l.drop k) = pairsL (l.take k) ++ pairsL (l.drop k) := List.filterMap_append
  rw [List.take_append_drop] at h2
  exact ⟨_, h2.symm⟩
theorem own_cells {w : World} {gL : Nat} {rest : List Value} (h : HasCells w gL (ownL.map (Value.int .i64) ++ rest) 3) : ∀ j, j < 12 → w.cell? ⟨gL, 0 + j, none⟩ = some (.int .i64 (ownL[j]?.getD 0)) := by
  intro j hj
  unfold HasCells at h
  have h2 : (ownL.map (Value.int .i64) ++ rest)[j]? = some (.int .i64 (ownL[j]?.getD 0)) := by
    have hl : (ownL.map (Value.int .i64)).length = 12 := rfl
    rw [List.getElem?_append_left (by omega), List.getElem?_map]
    have : j < ownL.length := hj
    simp [this]
  simp [World.cell?, h, h2]
theorem meas_len (len k : Nat) (h : k < len) : len - (intOf (.int .i64 ((k : Int) + 1))).toNat < len - (intOf (.int .i64 (k : Int))).toNat := by
  show len - ((k : Int) + 1).toNat < len - ((k : Int)).toNat
  omega
set_option maxRecDepth 100000 in
set_option maxHeartbeats 4000000 in
theorem places1_in (n : Nat) (hn : 2 ≤ n) (l n1 g g1 g3 gL cap len c : Nat) (rest : List Value) (A : Option Addr) (nums : List Int) (hlen : nums.length = len) (hreach : len ≤ 1000000) (J Jx : List (Fin 12 × Int) → World → Prop)
    (hY : ∀ pre x W, J pre W → pre.length < (pairsL nums).length → YieldAt Fence.wide (n - 1) Try.prog l #[.int .i64 (x.1.val : Int), .int .i64 x.2] W fun e W' =>
      (e = .returned (.bool true) ∧ J (pre ++ [x]) W' ∧ Kp n1 g W W') ∨ (e = .returned (.bool false) ∧ Jx (pre ++ [x]) W'))
    (W : World) (h1 : HasCells W g1 [.slice A len c] 28) (h3 : HasCells W g3 [.slice (some ⟨gL, 0, none⟩) 12 cap] 28) (hL : HasCells W gL (ownL.map (Value.int .i64) ++ rest) 3)
    (b3 : g3 < n1 ∧ g3 ≠ g) (bL : gL < n1 ∧ gL ≠ g) (hA : ∀ j, j < len → ∃ ad, A = some ad ∧ W.cell? (ad.add j) = some (.int .i64 (nums.getD j 0)) ∧ ad.block < n1 ∧ ad.block ≠ g) (h0 : J [] W) :
    CallsIn Fence.wide n Try.prog 41 #[.func (.yield l) #[] #[], .pointer (some ⟨g1, 0, none⟩), .pointer (some ⟨g3, 0, none⟩)] W fun e W' => (∃ v, e = .returned v) ∧
      ((∃ ys, ys = pairsL nums ∧ J ys W') ∨ (∃ pre, pre <+: pairsL nums ∧ Jx pre W')) := by
  have c1 := h1.cell
  have hn1 : 1 ≤ n := by omega
  have hfI : Fence.wide.fn 40 := trivial
  refine callsIn_of_wp Try.func41 rfl trivial ?_ rfl
  simp only [Try.ntmps41, List.size_toArray, List.length_cons, List.length_nil, Nat.reduceAdd, Nat.reduceSub, Array.replicate_succ, Array.replicate_zero, List.push_toArray, List.append_toArray, List.nil_append, List.cons_append]
  gi_wp2
  gi_loopw [9] (fun i wr => ∃ k : Nat, k ≤ len ∧ i = .int .i64 k ∧ J (pairsL (nums.take k)) wr ∧ Kp n1 g W wr) (fun i _ => len - (intOf i).toNat)
  case atStart => exact ⟨0, Nat.zero_le _, rfl, h0, Kp.refl _ _ _⟩
  case round =>
    obtain ⟨k, hk, rfl, hJs, hkp⟩ := hrel
    by_cases hlt : k < len
    · obtain ⟨ad, rfl, hcell, hb1, hb2⟩ := hA k hlt
      have hc2 := hkp.cell hcell (by rw [add_block]; exact hb1) (by rw [add_block]; exact hb2)
      have hc3 := hkp.cell h3.cell b3.1 b3.2
      have hcL : HasCells wr gL (ownL.map (Value.int .i64) ++ rest) 3 := hkp _ _ bL.1 bL.2 hL
      obtain ⟨x, hx⟩ : ∃ x, nums.getD k 0 = x := ⟨_, rfl⟩
      rw [hx] at hc2
      have cI := index_ints gL 0 12 cap ownL x wr rfl (by decide) (own_cells hcL)
      by_cases hi : 0 ≤ idxI ownL x
      · obtain ⟨j, hj, hp⟩ := idx_fin hi
        have hpl := pairs_lt (l := nums) (k := k) (by omega) hx hp
        have hpi := pairs_in (l := nums) (k := k) (by omega) hx hp
        rw [hj] at cI
        obtain ⟨fn, tmps, assign, body, hy, hR⟩ := hY _ (j, x) wr hJs hpl
        dsimp only at hy
        rw [← hpi] at hR
        have HR := Lib.hid hR
        have HK := Lib.hid hkp
        have hd : decide (0 ≤ (j.val : Int)) = true := decide_eq_true (by omega)
        clear hR hkp hcell hA hpl hpi hi hcL hj hp
        gi_wp2_with (gi_at_call 40; refine (callsIn_wide.2 cI).mono ?_; rintro e w' ⟨rfl, rfl⟩)
        refine HR.out.mono ?_
        rintro e W3 (⟨rfl, hJ3, hk3⟩ | ⟨rfl, hJx3⟩)
        · gi_wp2
          go_roundw
          case rel => exact ⟨k + 1, by omega, by simp, hJ3, HK.out.trans hk3⟩
          case measure => exact meas_len len k hlt
        · gi_wp2
          refine bodyPost_ret (results_none rfl _ _ _) rfl ?_
          exact ⟨⟨_, rfl⟩, .inr ⟨_, pairs_pre nums (k + 1), hJx3⟩⟩
      · have hpo := pairs_out (l := nums) (k := k) (by omega) hx (idx_none hi)
        have hd : decide (0 ≤ idxI ownL x) = false := decide_eq_false hi
        have HJ := Lib.hid hJs
        have HK := Lib.hid hkp
        have HP := Lib.hid hpo
        clear hJs hkp hcell hA hpo hi hcL
        gi_wp2_with (gi_at_call 40; refine (callsIn_wide.2 cI).mono ?_; rintro e w' ⟨rfl, rfl⟩)
        refine ⟨fun _ h => (by cases h), ?_⟩
        gi_wp2
        go_roundw
        case rel => exact ⟨k + 1, by omega, by simp, by rw [HP.out]; exact HJ.out, HK.out⟩
        case measure => exact meas_len len k hlt
    · obtain rfl : k = len := by omega
      rw [List.take_of_length_le (by omega)] at hJs
      gi_wp2
      go_end0
      exact ⟨⟨_, rfl⟩, .inl ⟨_, rfl, hJs⟩⟩
def Nums (n1 g : Nat) (A : Option Addr) (nums : List Int) (W : World) : Prop := ∀ j, j < nums.length → ∃ ad, A = some ad ∧ W.cell? (ad.add j) = some (.int .i64 (nums.getD j 0)) ∧ ad.block < n1 ∧ ad.block ≠ g
theorem places_stops (n : Nat) (hn : 2 ≤ n) (n1 g g1 g3 gL cap c : Nat) (rest : List Value) (A : Option Addr) (nums : List Int) (hreach : nums.length ≤ 1000000) (w : World) (h1 : HasCells w g1 [.slice A nums.length c] 28) (h3 : HasCells w g3 [.slice (some ⟨gL, 0, none⟩) 12 cap] 28) (hL : HasCells w gL (ownL.map (Value.int .i64) ++ rest) 3)
    (b3 : g3 < n1 ∧ g3 ≠ g) (bL : gL < n1 ∧ gL ≠ g) (hA : Nums n1 g A nums w) :
    SeqStopsK Fence.wide n Try.prog 41 #[.pointer (some ⟨g1, 0, none⟩), .pointer (some ⟨g3, 0, none⟩)] (fun x : Fin 12 × Int => #[Value.int .i64 (x.1.val : Int), Value.int .i64 x.2]) (Kp n1 g) (fun ys => ys = pairsL nums) (fun pre => pre <+: pairsL nums) (pairsL nums).length w := by
  intro l J Jx W hW _ _ hY h0
  have st : ∀ {b : Nat} {cs : List Value} {T : TypeId}, HasCells w b cs T → HasCells W b cs T := fun {b cs T} h => (hW.block b (Array.getElem?_eq_some_iff.1 h).1).trans h
  exact places1_in n hn l n1 g g1 g3 gL cap nums.length c rest A nums rfl hreach J Jx hY W (st h1) (st h3) (st hL) b3 bL (fun j hj => by
    obtain ⟨ad, e, hc, h4, h5⟩ := hA j hj
    exact ⟨ad, e, (hW.cell (World.block_lt_of_cell? w _ hc)).trans hc, h4, h5⟩) h0
end Go.Proofs.Ytllloedhlcdbjaa
end
section
namespace Go.Proofs.Ytllloedhlcdbjaa
set_option linter.unusedVariables false
set_option linter.unusedSimpArgs false
open Go.RowKit Kit
theorem Md.ext_iff' (m n : Md) : (m.cursor == n.cursor && (m.keypad == n.keypad && (m.back == n.back && (m.focus == n.focus && (m.paste == n.paste && (m.lock == n.lock && (m.line == n.line && (m.mouse == n.mouse && (m.coding == n.coding && (m.other == n.other && true)))))))))) = decide (m = n) := by
  rw [Bool.eq_iff_iff]
  cases m; cases n
  simp [and_assoc]
theorem equal_modes (m n : Md) (w : World) : (Op.equal 23 m.v n.v).run Try.prog w = .ok (decide (m = n)) w := by
  rw [← Md.ext_iff']
  refine eqStruct_of Try.underlying23 (by kernel_rfl) ?_
  refine eqF_cons (by rfl) (by go_simp; rfl) (by go_simp; rfl) (by go_simp) ?_
  refine eqF_cons (by rfl) (by go_simp; rfl) (by go_simp; rfl) (by go_simp) ?_
  refine eqF_cons (by rfl) (by go_simp; rfl) (by go_simp; rfl) (by go_simp) ?_
  refine eqF_cons (by rfl) (by go_simp; rfl) (by go_simp; rfl) (by go_simp) ?_
  refine eqF_cons (by rfl) (by go_simp; rfl) (by go_simp; rfl) (by go_simp) ?_
  refine eqF_cons (by rfl) (by go_simp; rfl) (by go_simp; rfl) (by go_simp) ?_
  refine eqF_cons (by rfl) (by go_simp; rfl) (by go_simp; rfl) (by go_simp) ?_
  refine eqF_cons (by rfl) (by go_simp; rfl) (by go_simp; rfl) (by go_simp) ?_
  refine eqF_cons (by rfl) (by go_simp; rfl) (by go_simp; rfl) (by go_simp) ?_
  refine eqF_cons (by rfl) (by go_simp; rfl) (by go_simp; rfl) (by go_simp) ?_
  exact eqF_nil
theorem fixed_says (n : Int) : ∃ ok, Says [(Value.int .i64 7, Value.int .i64 3), (.int .i64 25, .int .i64 3)] (.int .i64 n) (.int .i64 0) (.int .i64 (fixedM true n)) ok := by
  by_cases h1 : n = 7
  · subst h1; exact ⟨_, .hit _ (by simp [fixedM])⟩
  by_cases h2 : n = 25
  · subst h2; exact ⟨_, .hit _ (by simp [fixedM])⟩
  have e : fixedM true n = 0 := by simp [fixedM, h1, h2]
  rw [e]
  exact ⟨_, .miss (by simp [h1, h2, eq_comm])⟩
theorem fixed_says' (n : Int) : ∃ ok, Says [(Value.int .i64 4, Value.int .i64 4), (.int .i64 12, .int .i64 4)] (.int .i64 n) (.int .i64 0) (.int .i64 (fixedM false n)) ok := by
  by_cases h1 : n = 4
  · subst h1; exact ⟨_, .hit _ (by simp [fixedM])⟩
  by_cases h2 : n = 12
  · subst h2; exact ⟨_, .hit _ (by simp [fixedM])⟩
  have e : fixedM false n = 0 := by simp [fixedM, h1, h2]
  rw [e]
  exact ⟨_, .miss (by simp [h1, h2, eq_comm])⟩
set_option maxHeartbeats 1000000 in
theorem get_calls (m : Md) (p : Bool) (n : Int) (w : World) :
    Calls Try.prog 15 #[m.v, .bool p, .int .i64 n] w fun e w' => e = .returned (.int .i64 (getM m p n)) ∧ Below w.heap.size w w' := by
  have HO := Mine.start w
  obtain ⟨on, hon⟩ : ∃ x, setM m p n true = x := ⟨_, rfl⟩
  have hg : getM m p n = if on.2 then (if on.1 = m then 1 else 2) else fixedM p n := by simp [getM, hon]
  have HG := Lib.hid hg
  have HON' := Lib.hid hon
  clear hg hon
  go_enter Try.func15, Try.ntmps15
  go_wp2_with (first
      | ((with_reducible refine gate ?_); (first
      | ((refine own_box HO rfl rfl rfl ?_); clear HO; intro gN wN hgN HO; (simp only [List.nil_append, List.cons_append] at HO); (try simp only [Act.put, List.setIfInBounds_toArray, List.set_cons_zero, List.set_cons_succ]))
      | ((refine own_alloc (T := 23) HO rfl rfl Try.zeroValue23 rfl ?_); clear HO; intro gN wN hgN HO; (simp only [List.nil_append, List.cons_append] at HO); (try simp only [Act.put, List.setIfInBounds_toArray, List.set_cons_zero, List.set_cons_succ]))
      | ((refine own_alloc (T := 3) HO rfl rfl Try.zeroValue3 rfl ?_); clear HO; intro gN wN hgN HO; (simp only [List.nil_append, List.cons_append] at HO); (try simp only [Act.put, List.setIfInBounds_toArray, List.set_cons_zero, List.set_cons_succ]))
      | ((refine own_alloc (T := 4) HO rfl rfl Try.zeroValue4 rfl ?_); clear HO; intro gN wN hgN HO; (simp only [List.nil_append, List.cons_append] at HO); (try simp only [Act.put, List.setIfInBounds_toArray, List.set_cons_zero, List.set_cons_succ]))
      | ((refine own_load (T := 23) HO rfl rfl rfl (by first | exact .head _ | exact .tail _ (.head _) | exact .tail _ (.tail _ (.head _)) | exact .tail _ (.tail _ (.tail _ (.head _))) | exact .tail _ (.tail _ (.tail _ (.tail _ (.head _)))) | exact .tail _ (.tail _ (.tail _ (.tail _ (.tail _ (.head _)))))) Try.isAgg23 Try.sizeOf23 (by repeat constructor) ?_); (try simp only [Act.put, List.setIfInBounds_toArray, List.set_cons_zero, List.set_cons_succ]))
      | ((refine own_load1 (T := 3) HO rfl rfl rfl (by first | exact .head _ | exact .tail _ (.head _) | exact .tail _ (.tail _ (.head _)) | exact .tail _ (.tail _ (.tail _ (.head _))) | exact .tail _ (.tail _ (.tail _ (.tail _ (.head _)))) | exact .tail _ (.tail _ (.tail _ (.tail _ (.tail _ (.head _)))))) Try.isAgg3 rfl ?_); (try simp only [Act.put, List.setIfInBounds_toArray, List.set_cons_zero, List.set_cons_succ]))
      | ((refine own_load1 (T := 4) HO rfl rfl rfl (by first | exact .head _ | exact .tail _ (.head _) | exact .tail _ (.tail _ (.head _)) | exact .tail _ (.tail _ (.tail _ (.head _))) | exact .tail _ (.tail _ (.tail _ (.tail _ (.head _)))) | exact .tail _ (.tail _ (.tail _ (.tail _ (.tail _ (.head _)))))) Try.isAgg4 rfl ?_); (try simp only [Act.put, List.setIfInBounds_toArray, List.set_cons_zero, List.set_cons_succ]))
      | ((refine own_store (T := 23) HO rfl rfl rfl rfl (by first | exact .here | exact .there (.here) | exact .there (.there (.here)) | exact .there (.there (.there (.here))) | exact .there (.there (.there (.there (.here)))) | exact .there (.there (.there (.there (.there (.here)))))) Try.sizeOf23 (by repeat constructor) rfl ?_); clear HO; intro wN HO; (try simp only [Act.put, List.setIfInBounds_toArray, List.set_cons_zero, List.set_cons_succ]))
      | ((refine own_store (T := 3) HO rfl rfl rfl rfl (by first | exact .here | exact .there (.here) | exact .there (.there (.here)) | exact .there (.there (.there (.here))) | exact .there (.there (.there (.there (.here)))) | exact .there (.there (.there (.there (.there (.here)))))) Try.sizeOf3 (by repeat constructor) rfl ?_); clear HO; intro wN HO; (try simp only [Act.put, List.setIfInBounds_toArray, List.set_cons_zero, List.set_cons_succ]))
      | ((refine own_store (T := 4) HO rfl rfl rfl rfl (by first | exact .here | exact .there (.here) | exact .there (.there (.here)) | exact .there (.there (.there (.here))) | exact .there (.there (.there (.there (.here)))) | exact .there (.there (.there (.there (.there (.here)))))) Try.sizeOf4 (by repeat constructor) rfl ?_); clear HO; intro wN HO; (try simp only [Act.put, List.setIfInBounds_toArray, List.set_cons_zero, List.set_cons_succ])))))
  refine (set_calls m p n true _).mono ?_
  rintro e w1 ⟨rfl, hb⟩
  replace HO := HO.call hb
  clear hb
  rw [HON'.out]
  clear HON'
  obtain ⟨on, ok⟩ := on
  dsimp only at HG ⊢
  cases ok
  · have hgf : getM m p n = fixedM p n := by rw [HG.out]; rfl
    have HGF := Lib.hid hgf
    clear HG hgf
    cases p
    · obtain ⟨ok, hs⟩ := fixed_says' n
      have HS := Lib.hid hs
      clear hs
      go_wp2_with (first
      | ((with_reducible refine gate ?_); (first
      | ((refine own_makeMap HO rfl rfl ?_); clear HO; intro gN wN hgN HO; (simp only [List.nil_append, List.cons_append] at HO); (try simp only [Act.put, List.setIfInBounds_toArray, List.set_cons_zero, List.set_cons_succ]))
      | ((refine own_insert (mt := 62) HO rfl rfl rfl (by first | exact .const | exact .tmp rfl | exact .func) (by first | exact .const | exact .tmp rfl | exact .func) Try.underlying62 Try.underlying3 (by first | exact .here | exact .there (.here) | exact .there (.there (.here)) | exact .there (.there (.there (.here))) | exact .there (.there (.there (.there (.here)))) | exact .there (.there (.there (.there (.there (.here)))))) (by simp [MapKept.IsKey]) (by first | exact rfl | exact trivial) (by simp) ?_); clear HO; intro wN HO; (simp only [List.nil_append, List.cons_append] at HO); (try simp only [Act.put, List.setIfInBounds_toArray, List.set_cons_zero, List.set_cons_succ]))
      | ((refine own_insert (mt := 63) HO rfl rfl rfl (by first | exact .const | exact .tmp rfl | exact .func) (by first | exact .const | exact .tmp rfl | exact .func) Try.underlying63 Try.underlying4 (by first | exact .here | exact .there (.here) | exact .there (.there (.here)) | exact .there (.there (.there (.here))) | exact .there (.there (.there (.there (.here)))) | exact .there (.there (.there (.there (.there (.here)))))) (by simp [MapKept.IsKey]) (by first | exact rfl | exact trivial) (by simp) ?_); clear HO; intro wN HO; (simp only [List.nil_append, List.cons_append] at HO); (try simp only [Act.put, List.setIfInBounds_toArray, List.set_cons_zero, List.set_cons_succ]))
      | ((refine own_lookup (mt := 63) HO rfl rfl rfl (by first | exact .const | exact .tmp rfl | exact .func) Try.underlying63 Try.underlying4 Try.zeroValue62 (by first | exact .head _ | exact .tail _ (.head _) | exact .tail _ (.tail _ (.head _)) | exact .tail _ (.tail _ (.tail _ (.head _))) | exact .tail _ (.tail _ (.tail _ (.tail _ (.head _)))) | exact .tail _ (.tail _ (.tail _ (.tail _ (.tail _ (.head _)))))) (by simp) (by simp [MapKept.IsKey]) (by first | exact rfl | exact trivial) (.hit _ (by simp; rfl)) ?_); (try simp only [Act.put, List.setIfInBounds_toArray, List.set_cons_zero, List.set_cons_succ]))
      | ((refine own_lookup (mt := 62) HO rfl rfl rfl (by first | exact .const | exact .tmp rfl | exact .func) Try.underlying62 Try.underlying3 Try.zeroValue3 (by first | exact .head _ | exact .tail _ (.head _) | exact .tail _ (.tail _ (.head _)) | exact .tail _ (.tail _ (.tail _ (.head _))) | exact .tail _ (.tail _ (.tail _ (.tail _ (.head _)))) | exact .tail _ (.tail _ (.tail _ (.tail _ (.tail _ (.head _)))))) (by simp) (by simp [MapKept.IsKey]) (by first | exact rfl | exact trivial) (HS.out) ?_); (try simp only [Act.put, List.setIfInBounds_toArray, List.set_cons_zero, List.set_cons_succ]))
      | ((refine own_box HO rfl rfl rfl ?_); clear HO; intro gN wN hgN HO; (simp only [List.nil_append, List.cons_append] at HO); (try simp only [Act.put, List.setIfInBounds_toArray, List.set_cons_zero, List.set_cons_succ]))
      | ((refine own_alloc (T := 23) HO rfl rfl Try.zeroValue23 rfl ?_); clear HO; intro gN wN hgN HO; (simp only [List.nil_append, List.cons_append] at HO); (try simp only [Act.put, List.setIfInBounds_toArray, List.set_cons_zero, List.set_cons_succ]))
      | ((refine own_alloc (T := 3) HO rfl rfl Try.zeroValue3 rfl ?_); clear HO; intro gN wN hgN HO; (simp only [List.nil_append, List.cons_append] at HO); (try simp only [Act.put, List.setIfInBounds_toArray, List.set_cons_zero, List.set_cons_succ]))
      | ((refine own_alloc (T := 4) HO rfl rfl Try.zeroValue4 rfl ?_); clear HO; intro gN wN hgN HO; (simp only [List.nil_append, List.cons_append] at HO); (try simp only [Act.put, List.setIfInBounds_toArray, List.set_cons_zero, List.set_cons_succ]))
      | ((refine own_load (T := 23) HO rfl rfl rfl (by first | exact .head _ | exact .tail _ (.head _) | exact .tail _ (.tail _ (.head _)) | exact .tail _ (.tail _ (.tail _ (.head _))) | exact .tail _ (.tail _ (.tail _ (.tail _ (.head _)))) | exact .tail _ (.tail _ (.tail _ (.tail _ (.tail _ (.head _)))))) Try.isAgg23 Try.sizeOf23 (by repeat constructor) ?_); (try simp only [Act.put, List.setIfInBounds_toArray, List.set_cons_zero, List.set_cons_succ]))
      | ((refine own_load1 (T := 3) HO rfl rfl rfl (by first | exact .head _ | exact .tail _ (.head _) | exact .tail _ (.tail _ (.head _)) | exact .tail _ (.tail _ (.tail _ (.head _))) | exact .tail _ (.tail _ (.tail _ (.tail _ (.head _)))) | exact .tail _ (.tail _ (.tail _ (.tail _ (.tail _ (.head _)))))) Try.isAgg3 rfl ?_); (try simp only [Act.put, List.setIfInBounds_toArray, List.set_cons_zero, List.set_cons_succ]))
      | ((refine own_load1 (T := 4) HO rfl rfl rfl (by first | exact .head _ | exact .tail _ (.head _) | exact .tail _ (.tail _ (.head _)) | exact .tail _ (.tail _ (.tail _ (.head _))) | exact .tail _ (.tail _ (.tail _ (.tail _ (.head _)))) | exact .tail _ (.tail _ (.tail _ (.tail _ (.tail _ (.head _)))))) Try.isAgg4 rfl ?_); (try simp only [Act.put, List.setIfInBounds_toArray, List.set_cons_zero, List.set_cons_succ]))
      | ((refine own_store (T := 23) HO rfl rfl rfl rfl (by first | exact .here | exact .there (.here) | exact .there (.there (.here)) | exact .there (.there (.there (.here))) | exact .there (.there (.there (.there (.here)))) | exact .there (.there (.there (.there (.there (.here)))))) Try.sizeOf23 (by repeat constructor) rfl ?_); clear HO; intro wN HO; (try simp only [Act.put, List.setIfInBounds_toArray, List.set_cons_zero, List.set_cons_succ]))
      | ((refine own_store (T := 3) HO rfl rfl rfl rfl (by first | exact .here | exact .there (.here) | exact .there (.there (.here)) | exact .there (.there (.there (.here))) | exact .there (.there (.there (.there (.here)))) | exact .there (.there (.there (.there (.there (.here)))))) Try.sizeOf3 (by repeat constructor) rfl ?_); clear HO; intro wN HO; (try simp only [Act.put, List.setIfInBounds_toArray, List.set_cons_zero, List.set_cons_succ]))
      | ((refine own_store (T := 4) HO rfl rfl rfl rfl (by first | exact .here | exact .there (.here) | exact .there (.there (.here)) | exact .there (.there (.there (.here))) | exact .there (.there (.there (.there (.here)))) | exact .there (.there (.there (.there (.there (.here)))))) Try.sizeOf4 (by repeat constructor) rfl ?_); clear HO; intro wN HO; (try simp only [Act.put, List.setIfInBounds_toArray, List.set_cons_zero, List.set_cons_succ])))))
      go_ret
      exact ⟨ret_int HGF.out.symm, HO.below⟩
    · obtain ⟨ok, hs⟩ := fixed_says n
      have HS := Lib.hid hs
      clear hs
      go_wp2_with (first
      | ((with_reducible refine gate ?_); (first
      | ((refine own_makeMap HO rfl rfl ?_); clear HO; intro gN wN hgN HO; (simp only [List.nil_append, List.cons_append] at HO); (try simp only [Act.put, List.setIfInBounds_toArray, List.set_cons_zero, List.set_cons_succ]))
      | ((refine own_insert (mt := 62) HO rfl rfl rfl (by first | exact .const | exact .tmp rfl | exact .func) (by first | exact .const | exact .tmp rfl | exact .func) Try.underlying62 Try.underlying3 (by first | exact .here | exact .there (.here) | exact .there (.there (.here)) | exact .there (.there (.there (.here))) | exact .there (.there (.there (.there (.here)))) | exact .there (.there (.there (.there (.there (.here)))))) (by simp [MapKept.IsKey]) (by first | exact rfl | exact trivial) (by simp) ?_); clear HO; intro wN HO; (simp only [List.nil_append, List.cons_append] at HO); (try simp only [Act.put, List.setIfInBounds_toArray, List.set_cons_zero, List.set_cons_succ]))
      | ((refine own_insert (mt := 63) HO rfl rfl rfl (by first | exact .const | exact .tmp rfl | exact .func) (by first | exact .const | exact .tmp rfl | exact .func) Try.underlying63 Try.underlying4 (by first | exact .here | exact .there (.here) | exact .there (.there (.here)) | exact .there (.there (.there (.here))) | exact .there (.there (.there (.there (.here)))) | exact .there (.there (.there (.there (.there (.here)))))) (by simp [MapKept.IsKey]) (by first | exact rfl | exact trivial) (by simp) ?_); clear HO; intro wN HO; (simp only [List.nil_append, List.cons_append] at HO); (try simp only [Act.put, List.setIfInBounds_toArray, List.set_cons_zero, List.set_cons_succ]))
      | ((refine own_lookup (mt := 63) HO rfl rfl rfl (by first | exact .const | exact .tmp rfl | exact .func) Try.underlying63 Try.underlying4 Try.zeroValue62 (by first | exact .head _ | exact .tail _ (.head _) | exact .tail _ (.tail _ (.head _)) | exact .tail _ (.tail _ (.tail _ (.head _))) | exact .tail _ (.tail _ (.tail _ (.tail _ (.head _)))) | exact .tail _ (.tail _ (.tail _ (.tail _ (.tail _ (.head _)))))) (by simp) (by simp [MapKept.IsKey]) (by first | exact rfl | exact trivial) (.hit _ (by simp; rfl)) ?_); (try simp only [Act.put, List.setIfInBounds_toArray, List.set_cons_zero, List.set_cons_succ]))
      | ((refine own_lookup (mt := 62) HO rfl rfl rfl (by first | exact .const | exact .tmp rfl | exact .func) Try.underlying62 Try.underlying3 Try.zeroValue3 (by first | exact .head _ | exact .tail _ (.head _) | exact .tail _ (.tail _ (.head _)) | exact .tail _ (.tail _ (.tail _ (.head _))) | exact .tail _ (.tail _ (.tail _ (.tail _ (.head _)))) | exact .tail _ (.tail _ (.tail _ (.tail _ (.tail _ (.head _)))))) (by simp) (by simp [MapKept.IsKey]) (by first | exact rfl | exact trivial) (HS.out) ?_); (try simp only [Act.put, List.setIfInBounds_toArray, List.set_cons_zero, List.set_cons_succ]))
      | ((refine own_box HO rfl rfl rfl ?_); clear HO; intro gN wN hgN HO; (simp only [List.nil_append, List.cons_append] at HO); (try simp only [Act.put, List.setIfInBounds_toArray, List.set_cons_zero, List.set_cons_succ]))
      | ((refine own_alloc (T := 23) HO rfl rfl Try.zeroValue23 rfl ?_); clear HO; intro gN wN hgN HO; (simp only [List.nil_append, List.cons_append] at HO); (try simp only [Act.put, List.setIfInBounds_toArray, List.set_cons_zero, List.set_cons_succ]))
      | ((refine own_alloc (T := 3) HO rfl rfl Try.zeroValue3 rfl ?_); clear HO; intro gN wN hgN HO; (simp only [List.nil_append, List.cons_append] at HO); (try simp only [Act.put, List.setIfInBounds_toArray, List.set_cons_zero, List.set_cons_succ]))
      | ((refine own_alloc (T := 4) HO rfl rfl Try.zeroValue4 rfl ?_); clear HO; intro gN wN hgN HO; (simp only [List.nil_append, List.cons_append] at HO); (try simp only [Act.put, List.setIfInBounds_toArray, List.set_cons_zero, List.set_cons_succ]))
      | ((refine own_load (T := 23) HO rfl rfl rfl (by first | exact .head _ | exact .tail _ (.head _) | exact .tail _ (.tail _ (.head _)) | exact .tail _ (.tail _ (.tail _ (.head _))) | exact .tail _ (.tail _ (.tail _ (.tail _ (.head _)))) | exact .tail _ (.tail _ (.tail _ (.tail _ (.tail _ (.head _)))))) Try.isAgg23 Try.sizeOf23 (by repeat constructor) ?_); (try simp only [Act.put, List.setIfInBounds_toArray, List.set_cons_zero, List.set_cons_succ]))
      | ((refine own_load1 (T := 3) HO rfl rfl rfl (by first | exact .head _ | exact .tail _ (.head _) | exact .tail _ (.tail _ (.head _)) | exact .tail _ (.tail _ (.tail _ (.head _))) | exact .tail _ (.tail _ (.tail _ (.tail _ (.head _)))) | exact .tail _ (.tail _ (.tail _ (.tail _ (.tail _ (.head _)))))) Try.isAgg3 rfl ?_); (try simp only [Act.put, List.setIfInBounds_toArray, List.set_cons_zero, List.set_cons_succ]))
      | ((refine own_load1 (T := 4) HO rfl rfl rfl (by first | exact .head _ | exact .tail _ (.head _) | exact .tail _ (.tail _ (.head _)) | exact .tail _ (.tail _ (.tail _ (.head _))) | exact .tail _ (.tail _ (.tail _ (.tail _ (.head _)))) | exact .tail _ (.tail _ (.tail _ (.tail _ (.tail _ (.head _)))))) Try.isAgg4 rfl ?_); (try simp only [Act.put, List.setIfInBounds_toArray, List.set_cons_zero, List.set_cons_succ]))
      | ((refine own_store (T := 23) HO rfl rfl rfl rfl (by first | exact .here | exact .there (.here) | exact .there (.there (.here)) | exact .there (.there (.there (.here))) | exact .there (.there (.there (.there (.here)))) | exact .there (.there (.there (.there (.there (.here)))))) Try.sizeOf23 (by repeat constructor) rfl ?_); clear HO; intro wN HO; (try simp only [Act.put, List.setIfInBounds_toArray, List.set_cons_zero, List.set_cons_succ]))
      | ((refine own_store (T := 3) HO rfl rfl rfl rfl (by first | exact .here | exact .there (.here) | exact .there (.there (.here)) | exact .there (.there (.there (.here))) | exact .there (.there (.there (.there (.here)))) | exact .there (.there (.there (.there (.there (.here)))))) Try.sizeOf3 (by repeat constructor) rfl ?_); clear HO; intro wN HO; (try simp only [Act.put, List.setIfInBounds_toArray, List.set_cons_zero, List.set_cons_succ]))
      | ((refine own_store (T := 4) HO rfl rfl rfl rfl (by first | exact .here | exact .there (.here) | exact .there (.there (.here)) | exact .there (.there (.there (.here))) | exact .there (.there (.there (.there (.here)))) | exact .there (.there (.there (.there (.there (.here)))))) Try.sizeOf4 (by repeat constructor) rfl ?_); clear HO; intro wN HO; (try simp only [Act.put, List.setIfInBounds_toArray, List.set_cons_zero, List.set_cons_succ])))))
      go_ret
      exact ⟨ret_int HGF.out.symm, HO.below⟩
  · have hE := equal_modes on m
    by_cases he : on = m
    · have hgf : getM m p n = 1 := by rw [HG.out]; simp [he]
      have HGF := Lib.hid hgf
      have hd : decide (on = m) = true := decide_eq_true he
      rw [hd] at hE
      have HE := Lib.hid hE
      clear HG hgf hE hd he
      go_wp2_with (first
      | ((with_reducible refine gate ?_); (first
      | ((refine own_eql (t := 23) rfl rfl rfl rfl (by kernel_rfl) HE.out ?_); (try simp only [Act.put, List.setIfInBounds_toArray, List.set_cons_zero, List.set_cons_succ]))
      | ((refine own_box HO rfl rfl rfl ?_); clear HO; intro gN wN hgN HO; (simp only [List.nil_append, List.cons_append] at HO); (try simp only [Act.put, List.setIfInBounds_toArray, List.set_cons_zero, List.set_cons_succ]))
      | ((refine own_alloc (T := 23) HO rfl rfl Try.zeroValue23 rfl ?_); clear HO; intro gN wN hgN HO; (simp only [List.nil_append, List.cons_append] at HO); (try simp only [Act.put, List.setIfInBounds_toArray, List.set_cons_zero, List.set_cons_succ]))
      | ((refine own_alloc (T := 3) HO rfl rfl Try.zeroValue3 rfl ?_); clear HO; intro gN wN hgN HO; (simp only [List.nil_append, List.cons_append] at HO); (try simp only [Act.put, List.setIfInBounds_toArray, List.set_cons_zero, List.set_cons_succ]))
      | ((refine own_alloc (T := 4) HO rfl rfl Try.zeroValue4 rfl ?_); clear HO; intro gN wN hgN HO; (simp only [List.nil_append, List.cons_append] at HO); (try simp only [Act.put, List.setIfInBounds_toArray, List.set_cons_zero, List.set_cons_succ]))
      | ((refine own_load (T := 23) HO rfl rfl rfl (by first | exact .head _ | exact .tail _ (.head _) | exact .tail _ (.tail _ (.head _)) | exact .tail _ (.tail _ (.tail _ (.head _))) | exact .tail _ (.tail _ (.tail _ (.tail _ (.head _)))) | exact .tail _ (.tail _ (.tail _ (.tail _ (.tail _ (.head _)))))) Try.isAgg23 Try.sizeOf23 (by repeat constructor) ?_); (try simp only [Act.put, List.setIfInBounds_toArray, List.set_cons_zero, List.set_cons_succ]))
      | ((refine own_load1 (T := 3) HO rfl rfl rfl (by first | exact .head _ | exact .tail _ (.head _) | exact .tail _ (.tail _ (.head _)) | exact .tail _ (.tail _ (.tail _ (.head _))) | exact .tail _ (.tail _ (.tail _ (.tail _ (.head _)))) | exact .tail _ (.tail _ (.tail _ (.tail _ (.tail _ (.head _)))))) Try.isAgg3 rfl ?_); (try simp only [Act.put, List.setIfInBounds_toArray, List.set_cons_zero, List.set_cons_succ]))
      | ((refine own_load1 (T := 4) HO rfl rfl rfl (by first | exact .head _ | exact .tail _ (.head _) | exact .tail _ (.tail _ (.head _)) | exact .tail _ (.tail _ (.tail _ (.head _))) | exact .tail _ (.tail _ (.tail _ (.tail _ (.head _)))) | exact .tail _ (.tail _ (.tail _ (.tail _ (.tail _ (.head _)))))) Try.isAgg4 rfl ?_); (try simp only [Act.put, List.setIfInBounds_toArray, List.set_cons_zero, List.set_cons_succ]))
      | ((refine own_store (T := 23) HO rfl rfl rfl rfl (by first | exact .here | exact .there (.here) | exact .there (.there (.here)) | exact .there (.there (.there (.here))) | exact .there (.there (.there (.there (.here)))) | exact .there (.there (.there (.there (.there (.here)))))) Try.sizeOf23 (by repeat constructor) rfl ?_); clear HO; intro wN HO; (try simp only [Act.put, List.setIfInBounds_toArray, List.set_cons_zero, List.set_cons_succ]))
      | ((refine own_store (T := 3) HO rfl rfl rfl rfl (by first | exact .here | exact .there (.here) | exact .there (.there (.here)) | exact .there (.there (.there (.here))) | exact .there (.there (.there (.there (.here)))) | exact .there (.there (.there (.there (.there (.here)))))) Try.sizeOf3 (by repeat constructor) rfl ?_); clear HO; intro wN HO; (try simp only [Act.put, List.setIfInBounds_toArray, List.set_cons_zero, List.set_cons_succ]))
      | ((refine own_store (T := 4) HO rfl rfl rfl rfl (by first | exact .here | exact .there (.here) | exact .there (.there (.here)) | exact .there (.there (.there (.here))) | exact .there (.there (.there (.there (.here)))) | exact .there (.there (.there (.there (.there (.here)))))) Try.sizeOf4 (by repeat constructor) rfl ?_); clear HO; intro wN HO; (try simp only [Act.put, List.setIfInBounds_toArray, List.set_cons_zero, List.set_cons_succ])))))
      go_ret
      exact ⟨ret_int HGF.out.symm, HO.below⟩
    · have hgf : getM m p n = 2 := by rw [HG.out]; simp [he]
      have HGF := Lib.hid hgf
      have hd : decide (on = m) = false := decide_eq_false he
      rw [hd] at hE
      have HE := Lib.hid hE
      clear HG hgf hE hd he
      go_wp2_with (first
      | ((with_reducible refine gate ?_); (first
      | ((refine own_eql (t := 23) rfl rfl rfl rfl (by kernel_rfl) HE.out ?_); (try simp only [Act.put, List.setIfInBounds_toArray, List.set_cons_zero, List.set_cons_succ]))
      | ((refine own_box HO rfl rfl rfl ?_); clear HO; intro gN wN hgN HO; (simp only [List.nil_append, List.cons_append] at HO); (try simp only [Act.put, List.setIfInBounds_toArray, List.set_cons_zero, List.set_cons_succ]))
      | ((refine own_alloc (T := 23) HO rfl rfl Try.zeroValue23 rfl ?_); clear HO; intro gN wN hgN HO; (simp only [List.nil_append, List.cons_append] at HO); (try simp only [Act.put, List.setIfInBounds_toArray, List.set_cons_zero, List.set_cons_succ]))
      | ((refine own_alloc (T := 3) HO rfl rfl Try.zeroValue3 rfl ?_); clear HO; intro gN wN hgN HO; (simp only [List.nil_append, List.cons_append] at HO); (try simp only [Act.put, List.setIfInBounds_toArray, List.set_cons_zero, List.set_cons_succ]))
      | ((refine own_alloc (T := 4) HO rfl rfl Try.zeroValue4 rfl ?_); clear HO; intro gN wN hgN HO; (simp only [List.nil_append, List.cons_append] at HO); (try simp only [Act.put, List.setIfInBounds_toArray, List.set_cons_zero, List.set_cons_succ]))
      | ((refine own_load (T := 23) HO rfl rfl rfl (by first | exact .head _ | exact .tail _ (.head _) | exact .tail _ (.tail _ (.head _)) | exact .tail _ (.tail _ (.tail _ (.head _))) | exact .tail _ (.tail _ (.tail _ (.tail _ (.head _)))) | exact .tail _ (.tail _ (.tail _ (.tail _ (.tail _ (.head _)))))) Try.isAgg23 Try.sizeOf23 (by repeat constructor) ?_); (try simp only [Act.put, List.setIfInBounds_toArray, List.set_cons_zero, List.set_cons_succ]))
      | ((refine own_load1 (T := 3) HO rfl rfl rfl (by first | exact .head _ | exact .tail _ (.head _) | exact .tail _ (.tail _ (.head _)) | exact .tail _ (.tail _ (.tail _ (.head _))) | exact .tail _ (.tail _ (.tail _ (.tail _ (.head _)))) | exact .tail _ (.tail _ (.tail _ (.tail _ (.tail _ (.head _)))))) Try.isAgg3 rfl ?_); (try simp only [Act.put, List.setIfInBounds_toArray, List.set_cons_zero, List.set_cons_succ]))
      | ((refine own_load1 (T := 4) HO rfl rfl rfl (by first | exact .head _ | exact .tail _ (.head _) | exact .tail _ (.tail _ (.head _)) | exact .tail _ (.tail _ (.tail _ (.head _))) | exact .tail _ (.tail _ (.tail _ (.tail _ (.head _)))) | exact .tail _ (.tail _ (.tail _ (.tail _ (.tail _ (.head _)))))) Try.isAgg4 rfl ?_); (try simp only [Act.put, List.setIfInBounds_toArray, List.set_cons_zero, List.set_cons_succ]))
      | ((refine own_store (T := 23) HO rfl rfl rfl rfl (by first | exact .here | exact .there (.here) | exact .there (.there (.here)) | exact .there (.there (.there (.here))) | exact .there (.there (.there (.there (.here)))) | exact .there (.there (.there (.there (.there (.here)))))) Try.sizeOf23 (by repeat constructor) rfl ?_); clear HO; intro wN HO; (try simp only [Act.put, List.setIfInBounds_toArray, List.set_cons_zero, List.set_cons_succ]))
      | ((refine own_store (T := 3) HO rfl rfl rfl rfl (by first | exact .here | exact .there (.here) | exact .there (.there (.here)) | exact .there (.there (.there (.here))) | exact .there (.there (.there (.there (.here)))) | exact .there (.there (.there (.there (.there (.here)))))) Try.sizeOf3 (by repeat constructor) rfl ?_); clear HO; intro wN HO; (try simp only [Act.put, List.setIfInBounds_toArray, List.set_cons_zero, List.set_cons_succ]))
      | ((refine own_store (T := 4) HO rfl rfl rfl rfl (by first | exact .here | exact .there (.here) | exact .there (.there (.here)) | exact .there (.there (.there (.here))) | exact .there (.there (.there (.there (.here)))) | exact .there (.there (.there (.there (.there (.here)))))) Try.sizeOf4 (by repeat constructor) rfl ?_); clear HO; intro wN HO; (try simp only [Act.put, List.setIfInBounds_toArray, List.set_cons_zero, List.set_cons_succ])))))
      go_ret
      exact ⟨ret_int HGF.out.symm, HO.below⟩
end Go.Proofs.Ytllloedhlcdbjaa
end
section
namespace Go.Proofs.Ytllloedhlcdbjaa
set_option linter.unusedVariables false
set_option linter.unusedSimpArgs false
open Go.RowKit Kit
attribute [local irreducible] wpList Calls wpQuiet
theorem set_calls' (m : Md) (p : Bool) (n : Int) (on : Bool) (r : Md) (ok : Bool) (h : setM m p n on = (r, ok)) (w : World) :
    Calls Try.prog 13 #[m.v, .bool p, .int .i64 n, .bool on] w fun e w' => e = .returned (.tuple #[r.v, .bool ok]) ∧ Below w.heap.size w w' := by
  have := set_calls m p n on w; rw [h] at this; exact this
theorem get_calls' (m : Md) (p : Bool) (n : Int) (r : Int) (h : getM m p n = r) (w : World) :
    Calls Try.prog 15 #[m.v, .bool p, .int .i64 n] w fun e w' => e = .returned (.int .i64 r) ∧ Below w.heap.size w w' := by
  have := get_calls m p n w; rw [h] at this; exact this
end Go.Proofs.Ytllloedhlcdbjaa
end
section
namespace Go.Proofs.Ytllloedhlcdbjaa.Kit
set_option linter.unusedVariables false
set_option linter.unusedSimpArgs false
open Go Go.RowKit Go.Proofs.YtllloedhlcdbjaaW.PrintWords
section
variable {P : Program} {ops : Array Oper} {Q : Exit → Act → World → Prop} {a : Act} {w W0 : World} {rest : List Oper} {o : Oper} {bs bs' : Res} {g off n : Nat} {cs cs' vs : List Value} {T E : TypeId} {v : Value} {X : World → Prop}
def XB (X : World → Prop) : Prop := ∀ w w', X w → Below w.heap.size w w' → X w'
def XS (E : TypeId) (X : World → Prop) : Prop := ∀ w g cs cs', X w → w.heap[g]? = some (.cells cs E (0, 0)) → X (w.setRow g cs')
theorem XB.rows {α : Type} (d : Kd α) (e base : Nat) (ok : Nat → Prop) (v : Value) (xs : List α) : XB (fun w => Kd.S d e w base ok v xs) := fun w w' h hb => Kd.S_below h hb
theorem XS.rows {α : Type} (d : Kd α) (e base : Nat) (ok : Nat → Prop) (v : Value) (xs : List α) {T : TypeId} (ht : ∀ q, q ∈ e :: d.E → q ≠ T) : XS T (fun w => Kd.S d e w base ok v xs) := fun w g cs cs' h hg => by
  refine Kd.S_mono (Kd.S_step (Kd.S_bound h) (fun k hk hlt => ?_)) (fun k hk => hk.1)
  obtain ⟨_, _, _, q, hq, cells, hc⟩ := hk
  refine setRow_other w g k _ (fun e => ?_)
  subst e
  rw [hc] at hg
  cases hg
  exact absurd rfl (ht _ hq)
theorem own_storeX (HO : Mine W0 w bs) (HX : X w) {x y : Operand} (ho : o.op = .store T x y) (hgd : Region.wanted o (yielded ops a.tmps) = true) (hx : a.eval x = .pointer (some ⟨g, off, none⟩)) (hv : (a.eval y).cells = vs.toArray)
    (hu : Upd bs g (IsCells cs E) (IsCells cs' E) bs') (hk : XS E X) (hsz : ∀ w, (sizeOf T).run P w = .ok vs.length w) (hp : PutAt cs off vs cs') (h1 : vs.all (·.oneCell') = true)
    (h : ∀ w', Mine W0 w' bs' → X w' → wpList P ops Q rest (a.put o.dst undef) w') : wpList P ops Q (o :: rest) a w :=
  wpList_want hgd fun _ hK => by
    unfold Oper.wp execOp
    simp only [ho, hx, Instr.storeAt, Instr.sureAddr, Sem.run_bind, Sem.run_pure, Result.andThen_ok, run_store_own (HO.at hu.mem) hv hsz hp h1]
    exact hK _ _ (h _ (HO.setRow hu) (hk _ _ _ _ HX (HO.at hu.mem)))
end
end Go.Proofs.Ytllloedhlcdbjaa.Kit
end
section
namespace Go.Proofs.Ytllloedhlcdbjaa
set_option linter.unusedVariables false
set_option linter.unusedSimpArgs false
open Go.RowKit Kit Go.Shelf Go.Proofs.YtllloedhlcdbjaaW.PrintWords
attribute [local go_sem] Oper.semAt_some
theorem wideRegion {P : Program} {Q : Exit → Act → World → Prop} {a : Act} {w : World} {n id : Nat} {l : List Oper} (h : wpList P l.toArray Q l a w) : (Code.region id l.toArray false).wpIn Fence.wide n P Q a w := wpIn_wide.2 (wp_region_lit h)
abbrev u8s (l : List Int) : List Value := l.map (Value.int .u8)
def stepS (m : Md) (s : List Int) (p : Fin 12 × Int) : List Int := s.set p.1.val (if getM m true p.2 = 1 then 1 else 2)
def saveL (m : Md) (s : List Int) (nums : List Int) : List Int := (pairsL nums).foldl (stepS m) s
theorem stepS_len (m : Md) (s : List Int) (p : Fin 12 × Int) : (stepS m s p).length = s.length := by simp [stepS]
theorem foldS_len (m : Md) : ∀ (l : List (Fin 12 × Int)) (s : List Int), (l.foldl (stepS m) s).length = s.length
  | [], _ => rfl
  | p :: l, s => by rw [List.foldl_cons, foldS_len m l, stepS_len]
theorem Slc.all {α : Type} : ∀ (l : List α), Slc l 0 l.length l
  | [] => .nil
  | _ :: l => .take (Slc.all l)
theorem PutAt.all {α : Type} : ∀ (l vs : List α), vs.length = l.length → PutAt l 0 vs vs
  | [], [], _ => .nil
  | _ :: l, _ :: vs, h => .put (PutAt.all l vs (by simpa using h))
theorem PutAt.one {α : Type} (v : α) : ∀ (l : List α) (k : Nat), k < l.length → PutAt l k [v] (l.set k v)
  | _ :: _, 0, _ => .put .nil
  | _ :: l, k + 1, h => .skip (PutAt.one v l k (by simpa using h))
theorem Keep.setRow {g : Nat} {A B : World} (h : Keep g A B) (cs : Array Value) : Keep g A (B.setRow g cs) :=
  ⟨by rw [size_setRow]; exact h.size, fun k hk hne => (setRow_other B g k _ hne).trans (h.same k hk hne)⟩
section
variable {P : Program} {ops : Array Oper} {Q : Exit → Act → World → Prop} {a : Act} {w W W0 : World} {rest : List Oper} {o : Oper} {bs bs' : Res} {g off n : Nat} {cs cs' vs : List Value} {T E : TypeId} {v : Value}
theorem own_put1 (HO : Mine W0 w bs) (HK : Keep g W w) {x y : Operand} (ho : o.op = .store T x y) (hgd : Region.wanted o (yielded ops a.tmps) = true) (hx : a.eval x = .pointer (some ⟨g, off, none⟩)) (hy : EvalTo a y v) (hc : v.cells = [v].toArray)
    (hu : Upd bs g (IsCells cs E) (IsCells (cs.set off v) E) bs') (hoff : off < cs.length) (hsz : ∀ w, (sizeOf T).run P w = .ok 1 w) (h1 : v.oneCell' = true)
    (h : ∀ w', Mine W0 w' bs' → Keep g W w' → wpList P ops Q rest (a.put o.dst undef) w') : wpList P ops Q (o :: rest) a w :=
  wpList_want hgd fun _ hK => by
    have hr := run_store_own (P := P) (T := T) (v := v) (HO.at hu.mem) (vs := [v]) hc hsz (PutAt.one v cs off hoff) (by simp [h1])
    unfold Oper.wp execOp
    simp only [ho, hx, hy.eq, Instr.storeAt, Instr.sureAddr, Sem.run_bind, Sem.run_pure, Result.andThen_ok, hr]
    exact hK _ _ (h _ (HO.setRow hu) (HK.setRow _))
end
theorem rd_int' (l : List Int) (i : Nat) (h : i < l.length) : rd l (i : Int) = l.getD i 0 := by
  simp [rd, List.getD, h]
theorem nums_of {A : Option Addr} {nums : List Int} {w wN : World} {g : Nat} (hC : (Kd.int .i64).C w A nums.length nums) (hb : Below w.heap.size w wN) (hge : w.heap.size ≤ g) (hlt : g < wN.heap.size) : Nums wN.heap.size g A nums wN := fun j hj => by
  obtain ⟨ad, e, hcell⟩ := Kd.at_int hC (j : Int) (by omega) (by omega)
  rw [Int.toNat_natCast] at hcell
  have hbl := World.block_lt_of_cell? w _ hcell
  rw [add_block] at hbl
  have hsz := hb.size
  refine ⟨ad, e, (hb.cell (by rw [add_block]; exact hbl)).trans (hcell.trans ?_), by omega, by omega⟩
  rw [rd_int' nums j hj]
attribute [local irreducible] wpList Calls wpQuiet
set_option maxRecDepth 100000 in
set_option maxHeartbeats 4000000 in
theorem save_calls (s : List Int) (hs : s.length = 12) (m : Md) (A : Option Addr) (c : Nat) (nums : List Int) (hn : nums.length ≤ 1000000) (w : World) (hC : (Kd.int .i64).C w A nums.length nums) :
    Calls Try.prog 20 #[.agg (u8s s).toArray, m.v, .slice A nums.length c] w fun e w' => e = .returned (.agg (u8s (saveL m s nums)).toArray) ∧ Below w.heap.size w w' := by
  refine (callsIn_wide (n := 5)).1 ?_
  have HO := Mine.start w
  have HS := Lib.hid hs
  have HC := Lib.hid hC
  have HN := Lib.hid hn
  clear hs hC hn
  refine callsIn_of_wp_marks Try.func20 rfl trivial ?_ rfl
  simp only [Try.ntmps20, List.size_toArray, List.length_cons, List.length_nil, Nat.reduceAdd, Nat.reduceSub, Array.replicate_succ, Array.replicate_zero, List.push_toArray, List.append_toArray, List.nil_append, List.cons_append]
  refine wpIn_seq ?_
  refine wideRegion ?_
  go_wp2_with (first
      | ((with_reducible refine gate ?_); (first
      | ((with_reducible refine gateAt (N := 4) rfl ?_); refine own_box HO rfl rfl (cs := [.bool m.cursor, .bool m.keypad, .bool m.back, .bool m.focus, .bool m.paste, .bool m.lock, .bool m.line, .int .i64 m.mouse, .int .i64 m.coding, .int .i64 m.other]) rfl ?_; clear HO; intro gM wN hgN HO; (simp only [List.nil_append, List.cons_append] at HO); (try simp only [Act.put, List.setIfInBounds_toArray, List.set_cons_zero, List.set_cons_succ]))
      | ((with_reducible refine gateAt (N := 3) rfl ?_); refine own_box HO rfl rfl (cs := u8s s) rfl ?_; clear HO; intro gS wN hgN HO; (simp only [List.nil_append, List.cons_append] at HO); (try simp only [Act.put, List.setIfInBounds_toArray, List.set_cons_zero, List.set_cons_succ]))
      | ((refine own_box HO rfl rfl rfl ?_); clear HO; intro gR wN hgR HO; (simp only [List.nil_append, List.cons_append] at HO); (try simp only [Act.put, List.setIfInBounds_toArray, List.set_cons_zero, List.set_cons_succ]))
      | ((refine own_alloc (T := 39) HO rfl rfl Try.zeroValue39 rfl ?_); clear HO; intro gR wN hgR HO; (simp only [List.nil_append, List.cons_append] at HO); (try simp only [Act.put, List.setIfInBounds_toArray, List.set_cons_zero, List.set_cons_succ]))
      | ((refine own_load (T := 23) HO rfl rfl rfl (by first | exact .head _ | exact .tail _ (.head _) | exact .tail _ (.tail _ (.head _)) | exact .tail _ (.tail _ (.tail _ (.head _))) | exact .tail _ (.tail _ (.tail _ (.tail _ (.head _)))) | exact .tail _ (.tail _ (.tail _ (.tail _ (.tail _ (.head _)))))) Try.isAgg23 Try.sizeOf23 (by repeat constructor) ?_); (try simp only [Act.put, List.setIfInBounds_toArray, List.set_cons_zero, List.set_cons_succ]))
      | ((refine own_store (T := 23) HO rfl rfl rfl rfl (by first | exact .here | exact .there (.here) | exact .there (.there (.here)) | exact .there (.there (.there (.here))) | exact .there (.there (.there (.there (.here)))) | exact .there (.there (.there (.there (.there (.here)))))) Try.sizeOf23 (by repeat constructor) rfl ?_); clear HO; intro wN HO; (try simp only [Act.put, List.setIfInBounds_toArray, List.set_cons_zero, List.set_cons_succ])))))
  refine wpIn_seq ?_
  refine wpIn_seq ?_
  refine wideRegion ?_
  go_wp2_with (go_at_call 31; refine (places_calls A _ c _).mono ?_; rintro eN wN ⟨v, rfl, ⟨g1, g3, gL, cap, rest, rfl, hg1, hg3, hgL, hc1, hc3, hcL, hcap⟩, hbN⟩; have hlt : gS < _ := HO.lt (.head _); have HON := HO.call hbN; have HX := Lib.hid (And.intro (Nat.ne_of_gt (Nat.lt_of_lt_of_le hlt hg3)) (And.intro (Nat.ne_of_gt (Nat.lt_of_lt_of_le hlt hgL)) (And.intro hc1 (And.intro hc3 hcL)))); clear HO hbN hlt hg1 hg3 hgL hc1 hc3 hcL hcap; have HO := HON; clear HON)
  refine wpIn_block ?_
  obtain ⟨hX3, hXL, hc1, hc3, hcL⟩ := HX.out
  have hge : w.heap.size ≤ gS := (HO.held _ (.head _)).1
  have hlt : gS < wN.heap.size := HO.lt (.head _)
  refine wpIn_rangeFunc_ownG (F := Fence.wide) rfl (by omega) (gf := 41) (lb := #[.pointer (some ⟨g1, 0, none⟩), .pointer (some ⟨g3, 0, none⟩)]) rfl trivial (enters_of Try.func41 (by kernel_rfl) rfl)
    (places_stops 4 (by omega) wN.heap.size gS g1 g3 gL cap c rest A nums HN.out wN hc1 hc3 hcL ⟨(Array.getElem?_eq_some_iff.1 hc3).1, hX3⟩ ⟨(Array.getElem?_eq_some_iff.1 hcL).1, hXL⟩ (fun j hj => by
      obtain ⟨ad, e, hcell⟩ := Kd.at_int HC.out (j : Int) (by omega) (by omega)
      rw [Int.toNat_natCast] at hcell
      have hb := World.block_lt_of_cell? w _ hcell
      rw [add_block] at hb
      have hsz := HO.below.size
      refine ⟨ad, e, (HO.below.cell (by rw [add_block]; exact hb)).trans (hcell.trans ?_), by omega, by omega⟩
      rw [rd_int' nums j hj])) (fun h k => h.trans k) (fun W l o o' hl _ _ _ k o2 hk hne h => (World.putObj_heap_other (show k ≠ l by omega)).trans h) (Below.refl _ _) (fun _ => rfl)
    (fun pre W => Mine w W [(gS, IsCells (u8s (pre.foldl (stepS m) s)) 39), (gM, IsCells [.bool m.cursor, .bool m.keypad, .bool m.back, .bool m.focus, .bool m.paste, .bool m.lock, .bool m.line, .int .i64 m.mouse, .int .i64 m.coding, .int .i64 m.other] 23), (gR, IsCells [.int .u8 0, .int .u8 0, .int .u8 0, .int .u8 0, .int .u8 0, .int .u8 0, .int .u8 0, .int .u8 0, .int .u8 0, .int .u8 0, .int .u8 0, .int .u8 0] 39)])
    (fun _ _ _ => False)
    (mine_own _ (fun s p hp o ho => by
      simp only [List.mem_cons, List.not_mem_nil, or_false] at hp
      rcases hp with rfl | rfl | rfl <;> exact cells_isCells ho) (by have := HO.below.size; omega))
    (fun _ _ _ _ _ hs _ _ => hs) HO
    (fun x => { tmps := #[.agg (u8s s).toArray, m.v, .slice A nums.length c, .pointer (some ⟨gS, 0, none⟩), .pointer (some ⟨gM, 0, none⟩), undef, .pointer (some ⟨gR, 0, none⟩), .int .i64 (x.1.val : Int), .int .i64 x.2, .slice A nums.length c, .func (.func 41) #[] #[.pointer (some ⟨g1, 0, none⟩), .pointer (some ⟨g3, 0, none⟩)], .int .i64 (x.1.val : Int), .int .i64 x.2, undef, undef, undef, undef, undef, undef, undef, undef, undef], defers := [] }) ?assign ?body ?done ?stop
  case assign =>
    intro l x W K hK
    gi_wp2
    exact hK
  case body =>
    rintro l pre x W hI _
    clear HO hc1 hc3 hcL
    have HO := hI
    have HK := Keep.refl gS W
    clear hI
    obtain ⟨⟨j, hj⟩, y⟩ := x
    obtain ⟨F, hF⟩ : ∃ F, List.foldl (stepS m) s pre = F := ⟨_, rfl⟩
    have hFl : F.length = 12 := by rw [← hF, foldS_len, HS.out]
    have hl1 : j < (u8s F).length := by simp [hFl, hj]
    have hl2 : ∀ v, j < ((u8s F).set j v).length := fun v => by simp [hFl, hj]
    have HL1 := Lib.hid hl1
    have HL2 := Lib.hid hl2
    have hst : ∀ g : Int, getM m true y = g → u8s (List.foldl (stepS m) s (pre ++ [(⟨j, hj⟩, y)])) = (u8s F).set j (.int .u8 (if g = 1 then 1 else 2)) := fun g e => by
      rw [List.foldl_append, hF]
      simp [stepS, e, List.map_set]
    have HST := Lib.hid hst
    rw [hF] at HO
    clear hF hFl hl1 hl2 hst
    have hj0 : (j : Int) < 12 := by omega
    refine wpIn_block ?_
    refine wpIn_seq ?_
    refine inRegion (fun ⟨_, _, h⟩ => h) rfl ?_
    go_wp2_with ((with_reducible refine gate ?_); refine own_put1 HO HK rfl rfl rfl (by first | exact .const | exact .tmp rfl) rfl .here (by first | exact HL1.out | exact HL2.out _) Try.sizeOf5 rfl ?_; clear HO HK; intro wN HO HK; (try simp only [Act.put, List.setIfInBounds_toArray, List.set_cons_zero, List.set_cons_succ]))
    refine wpIn_seq ?_
    refine inRegion (fun ⟨_, _, h⟩ => h) rfl ?_
    obtain ⟨g, hg⟩ : ∃ g, getM m true y = g := ⟨_, rfl⟩
    have hst := HST.out g hg
    have HG := Lib.hid hg
    clear hg HST
    by_cases h1 : g = 1
    · have H3 := Lib.hid (hst.trans (by rw [if_pos h1]))
      clear hst
      subst h1
      go_wp2_with (first
      | (go_at_call 15; refine (get_calls' m true y 1 HG.out _).mono ?_; rintro eN wN ⟨rfl, hbN⟩; have HON := HO.call hbN; have HKN := HK.below hbN; clear HO HK hbN; have HO := HON; have HK := HKN; clear HON HKN)
      | ((with_reducible refine gate ?_); (first
      | ((refine own_box HO rfl rfl rfl ?_); clear HO; intro gN wN hgN HO; (simp only [List.nil_append, List.cons_append] at HO); (try simp only [Act.put, List.setIfInBounds_toArray, List.set_cons_zero, List.set_cons_succ]))
      | ((refine own_load (T := 23) HO rfl rfl rfl (by first | exact .head _ | exact .tail _ (.head _) | exact .tail _ (.tail _ (.head _)) | exact .tail _ (.tail _ (.tail _ (.head _))) | exact .tail _ (.tail _ (.tail _ (.tail _ (.head _)))) | exact .tail _ (.tail _ (.tail _ (.tail _ (.tail _ (.head _)))))) Try.isAgg23 Try.sizeOf23 (by repeat constructor) ?_); (try simp only [Act.put, List.setIfInBounds_toArray, List.set_cons_zero, List.set_cons_succ]))
      | ((refine own_store (T := 23) HO rfl rfl rfl rfl (by first | exact .here | exact .there (.here) | exact .there (.there (.here)) | exact .there (.there (.there (.here))) | exact .there (.there (.there (.there (.here)))) | exact .there (.there (.there (.there (.there (.here)))))) Try.sizeOf23 (by repeat constructor) rfl ?_); clear HO; intro wN HO; (try simp only [Act.put, List.setIfInBounds_toArray, List.set_cons_zero, List.set_cons_succ])))))
      refine wpIn_cond_true rfl ?_
      refine inRegion (fun ⟨_, _, h⟩ => h) rfl ?_
      go_wp2_with ((with_reducible refine gate ?_); refine own_put1 HO HK rfl rfl rfl (by first | exact .const | exact .tmp rfl) rfl .here (by first | exact HL1.out | exact HL2.out _) Try.sizeOf5 rfl ?_; clear HO HK; intro wN HO HK; (try simp only [Act.put, List.setIfInBounds_toArray, List.set_cons_zero, List.set_cons_succ]))
      refine ⟨HK.from hlt, HK.kp _, ?_⟩
      dsimp only
      rw [H3.out]
      rw [List.set_set] at HO
      exact HO
    · have b1 : (g == 1) = false := beq_eq_false_iff_ne.2 h1
      have H3 := Lib.hid (hst.trans (by rw [if_neg h1]))
      clear hst h1
      go_wp2_with (first
      | (go_at_call 15; refine (get_calls' m true y g HG.out _).mono ?_; rintro eN wN ⟨rfl, hbN⟩; have HON := HO.call hbN; have HKN := HK.below hbN; clear HO HK hbN; have HO := HON; have HK := HKN; clear HON HKN)
      | ((with_reducible refine gate ?_); (first
      | ((refine own_box HO rfl rfl rfl ?_); clear HO; intro gN wN hgN HO; (simp only [List.nil_append, List.cons_append] at HO); (try simp only [Act.put, List.setIfInBounds_toArray, List.set_cons_zero, List.set_cons_succ]))
      | ((refine own_load (T := 23) HO rfl rfl rfl (by first | exact .head _ | exact .tail _ (.head _) | exact .tail _ (.tail _ (.head _)) | exact .tail _ (.tail _ (.tail _ (.head _))) | exact .tail _ (.tail _ (.tail _ (.tail _ (.head _)))) | exact .tail _ (.tail _ (.tail _ (.tail _ (.tail _ (.head _)))))) Try.isAgg23 Try.sizeOf23 (by repeat constructor) ?_); (try simp only [Act.put, List.setIfInBounds_toArray, List.set_cons_zero, List.set_cons_succ]))
      | ((refine own_store (T := 23) HO rfl rfl rfl rfl (by first | exact .here | exact .there (.here) | exact .there (.there (.here)) | exact .there (.there (.there (.here))) | exact .there (.there (.there (.there (.here)))) | exact .there (.there (.there (.there (.there (.here)))))) Try.sizeOf23 (by repeat constructor) rfl ?_); clear HO; intro wN HO; (try simp only [Act.put, List.setIfInBounds_toArray, List.set_cons_zero, List.set_cons_succ])))))
      refine wpIn_cond_false rfl ?_
      refine wpIn_skip ?_
      refine ⟨HK.from hlt, HK.kp _, ?_⟩
      dsimp only
      rw [H3.out]
      exact HO
  case done =>
    rintro D ys W hD rfl hI hK
    clear HO hc1 hc3 hcL
    have HO := hI
    clear hI
    obtain ⟨R, hR⟩ : ∃ R, List.foldl (stepS m) s (pairsL nums) = R := ⟨_, rfl⟩
    have hRl : R.length = 12 := by rw [← hR, foldS_len, HS.out]
    rw [hR] at HO
    have hsv : saveL m s nums = R := hR
    rw [hsv]
    have hln : (u8s R).length = 12 := by simp [hRl]
    have HSL : Hid (Slc (u8s R) 0 12 (u8s R)) := Lib.hid (by have := Slc.all (u8s R); rwa [hln] at this)
    have HSZ : Hid (∀ w, (sizeOf 39).run Try.prog w = .ok (u8s R).length w) := Lib.hid (by rw [hln]; exact Try.sizeOf39)
    have HONE : Hid ((u8s R).all (·.oneCell') = true) := Lib.hid (by rw [List.all_eq_true]; intro v hv; obtain ⟨z, _, rfl⟩ := List.mem_map.1 hv; rfl)
    have HLN := Lib.hid hln
    have HXS : XS 39 (fun w : World => w.heap[D]? = some (.deferred (some []))) := fun w g cs cs' h hg => (setRow_other w g D _ (fun e => by subst e; dsimp only at h; rw [hg] at h; cases h)).trans h
    have hD2 : w.heap.size ≤ D := by omega
    clear hR hRl hsv hln
    refine wpIn_seq ?_
    refine wideRegion ?_
    go_wp2_with ((with_reducible refine gate ?_); (first
      | (refine own_load (T := 39) (n := 12) (vs := u8s R) HO rfl rfl rfl (.head _) Try.isAgg39 Try.sizeOf39 HSL.out ?_; (try simp only [Act.put, List.setIfInBounds_toArray, List.set_cons_zero, List.set_cons_succ]))
      | (refine own_storeX (T := 39) (vs := u8s R) HO (X := fun w : World => w.heap[D]? = some (.deferred (some []))) hK rfl rfl rfl rfl (.there (.there .here)) HXS HSZ.out (PutAt.all _ _ HLN.out) HONE.out ?_; clear HO hK; intro wN HO hK; (try simp only [Act.put, List.setIfInBounds_toArray, List.set_cons_zero, List.set_cons_succ]))))
    refine wpIn_ret ?_
    have HO2 : Mine w (wN.putObj D (.deferred none)) _ := (mine_own (β := Unit) (B := w.heap.size) (fun _ => _) (fun s p hp o ho => by
      simp only [List.mem_cons, List.not_mem_nil, or_false] at hp
      rcases hp with rfl | rfl | rfl <;> exact cells_isCells ho) (Nat.le_refl _)).putObj (s := ()) _ HO hD2 hK rfl
    refine ⟨by simp, .inl ⟨_, _, rfl, run_takeDeferred hK, ?_⟩⟩
    exact ⟨_, own_results1 HO2 Try.results20 rfl (.tail _ (.tail _ (.head _))) Try.isAgg39 Try.sizeOf39 HSL.out, rfl, HO2.below⟩
  case stop =>
    rintro D c pre W _ _ h _
    exact h.elim
end Go.Proofs.Ytllloedhlcdbjaa
end
section
namespace Go.Proofs.Ytllloedhlcdbjaa
set_option linter.unusedVariables false
set_option linter.unusedSimpArgs false
open Go.RowKit Kit
theorem part_u8 (xs : List Int) (i : Nat) (h : i < xs.length) (w : World) : (part 5 (u8s xs).toArray (i * 1)).run Try.prog w = .ok (.int .u8 (xs.getD i 0)) w := by
  have hx : (u8s xs)[i]? = some (.int .u8 (xs.getD i 0)) := by simp [h, List.getD]
  have h1 := Try.isAgg5 w
  simp [part, Sem.run_bind, h1, hx, h, Sem.run, Result.andThen, List.getD]
theorem eqItems_u8 (d : Nat) (xs ys : List Int) (w : World) : ∀ (is : List Nat), (∀ i ∈ is, i < xs.length ∧ i < ys.length) →
    (Op.eqItems (d + 1) 5 1 (u8s xs).toArray (u8s ys).toArray is).run Try.prog w = .ok (is.all fun i => xs.getD i 0 == ys.getD i 0) w
  | [], _ => by simp [Op.eqItems]
  | i :: is, h => by
    have hi := h i (by simp)
    have ih := eqItems_u8 d xs ys w is (fun j hj => h j (by simp [hj]))
    have e : (Op.equalIn (d + 1) 5 (.int .u8 (xs.getD i 0)) (.int .u8 (ys.getD i 0))).run Try.prog w = .ok (xs.getD i 0 == ys.getD i 0) w := by go_simp
    simp only [Op.eqItems, Sem.run_bind, part_u8 xs i hi.1, part_u8 ys i hi.2, Result.andThen_ok, e]
    rw [List.all_cons]
    cases hb : xs.getD i 0 == ys.getD i 0
    · simp only [Bool.not_false, if_true, Sem.run_pure, Bool.false_and]
    · simp only [Bool.not_true, Bool.false_eq_true, if_false, Bool.true_and]
      exact ih
theorem all_same (xs ys : List Int) (hx : xs.length = 12) (hy : ys.length = 12) : ((List.range 12).all fun i => xs.getD i 0 == ys.getD i 0) = decide (xs = ys) := by
  rw [Bool.eq_iff_iff, decide_eq_true_iff, List.all_eq_true]
  constructor
  · intro h
    apply List.ext_getElem (by omega)
    intro i h1 h2
    have := h i (List.mem_range.2 (by omega))
    simpa [List.getD, h1, h2] using this
  · rintro rfl i _
    simp
theorem equal_saved (xs ys : List Int) (hx : xs.length = 12) (hy : ys.length = 12) (w : World) : (Op.equal 39 (.agg (u8s xs).toArray) (.agg (u8s ys).toArray)).run Try.prog w = .ok (decide (xs = ys)) w := by
  obtain ⟨i, hi⟩ : ∃ i, Try.prog.info? 5 = some i := ⟨_, rfl⟩
  rw [← all_same xs ys hx hy]
  refine (run_equalIn_array (P := Try.prog) (w := w) _ (u8s xs).toArray (u8s ys).toArray Try.underlying39 hi).trans ?_
  rw [show Try.prog.cellsOf 5 = 1 by kernel_rfl]
  exact eqItems_u8 _ xs ys w _ (fun i hi => by have := List.mem_range.1 hi; omega)
end Go.Proofs.Ytllloedhlcdbjaa
end
section
namespace Go.Proofs.Ytllloedhlcdbjaa
set_option linter.unusedVariables false
set_option linter.unusedSimpArgs false
open Go.RowKit Kit Go.Shelf Go.Proofs.YtllloedhlcdbjaaW.PrintWords
attribute [local go_sem] Oper.semAt_some
def stepR (s : List Int) (m : Md) (p : Fin 12 × Int) : Md := if s.getD p.1.val 0 = 1 ∨ s.getD p.1.val 0 = 2 then (setM m true p.2 (s.getD p.1.val 0 == 1)).1 else m
def restL (s : List Int) (m : Md) (nums : List Int) : Md := (pairsL nums).foldl (stepR s) m
def zero12 : List Int := [0, 0, 0, 0, 0, 0, 0, 0, 0, 0, 0, 0]
theorem stepR_zero (m : Md) (p : Fin 12 × Int) : stepR zero12 m p = m := by
  obtain ⟨⟨j, hj⟩, y⟩ := p
  have : ∀ j : Fin 12, zero12.getD j.val 0 = 0 := by decide
  have h := this ⟨j, hj⟩
  unfold stepR
  simp only at h ⊢
  rw [h]
  simp
theorem restL_zero (m : Md) (nums : List Int) : restL zero12 m nums = m := by
  unfold restL
  generalize pairsL nums = l
  induction l with
  | nil => rfl
  | cons p l ih => rw [List.foldl_cons, stepR_zero, ih]
namespace Kit
section
variable {P : Program} {l : List Oper} {s i : Nat} {os o : Oper} {W0 w0 : World} {bs bs' : Res} {fs fs' : List Fact} {vals : Nat → Value} {A : Act}
theorem Owes.before (h1 : i ≠ s) (h2 : waits l.toArray os i = true) (h : ∀ w, (∀ j, waits l.toArray o j = true → Facts fs j (vals j) w) → Mine W0 w bs → Below w0.heap.size w0 w → StepOk P l.toArray o A w fun v w' => Below w.heap.size w w' ∧ Facts fs i v w') : Owes P l s os W0 w0 bs bs' fs fs' vals A i o := by
  unfold Owes; rw [if_neg h1, if_pos h2]; exact h
theorem Owes.after (h1 : i ≠ s) (h2 : waits l.toArray os i = false) (h : ∀ w, (∀ j, waits l.toArray o j = true → Facts fs j (vals j) w ∨ Facts fs' j (vals j) w) → StepOk P l.toArray o A w fun v w' => w' = w ∧ Facts fs i v w ∧ Facts fs' i v w) : Owes P l s os W0 w0 bs bs' fs fs' vals A i o := by
  unfold Owes; rw [if_neg h1, if_neg (by rw [h2]; decide)]; exact h
theorem Owes.store (h : ∀ w, (∀ j, waits l.toArray o j = true → Facts fs j (vals j) w) → Mine W0 w bs → Below w0.heap.size w0 w → StepOk P l.toArray o A w fun v w' => Mine W0 w' bs' ∧ Facts fs' s v w' ∧ ∀ j, j ≠ s → Facts fs j (vals j) w → Facts fs' j (vals j) w') : Owes P l s os W0 w0 bs bs' fs fs' vals A s o := by
  unfold Owes; rw [if_pos rfl]; exact h
theorem Keep.stored {g : Nat} {A B C : World} (h : Keep g A B) (hs : C.heap.size = B.heap.size) (hc : ∀ b, B.heap.size ≤ b ∨ b ≠ g → C.heap[b]? = B.heap[b]?) : Keep g A C :=
  ⟨by rw [hs]; exact h.size, fun k hk hne => (hc k (.inr hne)).trans (h.same k hk hne)⟩
theorem Stays.keep (g : Nat) (A : World) : Stays (fun _ w => Keep g A w) := fun _ _ _ h hb => h.below hb
end
end Kit
attribute [local irreducible] wpList Calls wpQuiet
set_option maxRecDepth 100000 in
set_option maxHeartbeats 4000000 in
theorem restore_calls (s : List Int) (hs : s.length = 12) (m : Md) (A : Option Addr) (c : Nat) (nums : List Int) (hn : nums.length ≤ 1000000) (w : World) (hC : (Kd.int .i64).C w A nums.length nums) :
    Calls Try.prog 22 #[.agg (u8s s).toArray, m.v, .slice A nums.length c] w fun e w' => e = .returned (restL s m nums).v ∧ Below w.heap.size w w' := by
  refine (callsIn_wide (n := 5)).1 ?_
  have HO := Mine.start w
  have HS := Lib.hid hs
  have HC := Lib.hid hC
  have HN := Lib.hid hn
  obtain ⟨b0, hb0⟩ : ∃ b, decide (s = zero12) = b := ⟨_, rfl⟩
  have HE : Hid (∀ w, (Op.equal 39 (.agg (u8s s).toArray) (.agg #[.int .u8 0, .int .u8 0, .int .u8 0, .int .u8 0, .int .u8 0, .int .u8 0, .int .u8 0, .int .u8 0, .int .u8 0, .int .u8 0, .int .u8 0, .int .u8 0])).run Try.prog w = .ok b0 w) := Lib.hid fun w => (equal_saved s zero12 hs rfl w).trans (by rw [hb0])
  have HB := Lib.hid hb0
  have HSL : Hid (Slc (u8s s) 0 12 (u8s s)) := Lib.hid (by have := Slc.all (u8s s); rwa [show (u8s s).length = 12 by simp [hs]] at this)
  clear hs hC hn hb0
  refine callsIn_of_wp_marks Try.func22 rfl trivial ?_ rfl
  simp only [Try.ntmps22, List.size_toArray, List.length_cons, List.length_nil, Nat.reduceAdd, Nat.reduceSub, Array.replicate_succ, Array.replicate_zero, List.push_toArray, List.append_toArray, List.nil_append, List.cons_append]
  refine wpIn_seq ?_
  refine wideRegion ?_
  go_wp2_with (first
      | ((with_reducible refine gate ?_); (first
      | ((with_reducible refine gateAt (N := 4) rfl ?_); refine own_box HO rfl rfl (cs := [.bool m.cursor, .bool m.keypad, .bool m.back, .bool m.focus, .bool m.paste, .bool m.lock, .bool m.line, .int .i64 m.mouse, .int .i64 m.coding, .int .i64 m.other]) rfl ?_; clear HO; intro gM wN hgN HO; (simp only [List.nil_append, List.cons_append] at HO); (try simp only [Act.put, List.setIfInBounds_toArray, List.set_cons_zero, List.set_cons_succ]))
      | ((with_reducible refine gateAt (N := 3) rfl ?_); refine own_box HO rfl rfl (cs := u8s s) rfl ?_; clear HO; intro gS wN hgN HO; (simp only [List.nil_append, List.cons_append] at HO); (try simp only [Act.put, List.setIfInBounds_toArray, List.set_cons_zero, List.set_cons_succ]))
      | ((refine own_box HO rfl rfl rfl ?_); clear HO; intro gR wN hgR HO; (simp only [List.nil_append, List.cons_append] at HO); (try simp only [Act.put, List.setIfInBounds_toArray, List.set_cons_zero, List.set_cons_succ]))
      | ((refine own_alloc (T := 23) HO rfl rfl Try.zeroValue23 rfl ?_); clear HO; intro gR wN hgR HO; (simp only [List.nil_append, List.cons_append] at HO); (try simp only [Act.put, List.setIfInBounds_toArray, List.set_cons_zero, List.set_cons_succ]))
      | ((refine own_load (T := 23) HO rfl rfl rfl (by first | exact .head _ | exact .tail _ (.head _) | exact .tail _ (.tail _ (.head _)) | exact .tail _ (.tail _ (.tail _ (.head _))) | exact .tail _ (.tail _ (.tail _ (.tail _ (.head _)))) | exact .tail _ (.tail _ (.tail _ (.tail _ (.tail _ (.head _)))))) Try.isAgg23 Try.sizeOf23 (by repeat constructor) ?_); (try simp only [Act.put, List.setIfInBounds_toArray, List.set_cons_zero, List.set_cons_succ]))
      | ((refine own_store (T := 23) HO rfl rfl rfl rfl (by first | exact .here | exact .there (.here) | exact .there (.there (.here)) | exact .there (.there (.there (.here))) | exact .there (.there (.there (.there (.here)))) | exact .there (.there (.there (.there (.there (.here)))))) Try.sizeOf23 (by repeat constructor) rfl ?_); clear HO; intro wN HO; (try simp only [Act.put, List.setIfInBounds_toArray, List.set_cons_zero, List.set_cons_succ])))))
  refine wpIn_seq ?_
  refine wpIn_seq ?_
  refine wideRegion ?_
  go_wp2_with ((with_reducible refine gate ?_); (first
    | (refine own_load (T := 39) (n := 12) (vs := u8s s) HO rfl rfl rfl (.head _) Try.isAgg39 Try.sizeOf39 HSL.out ?_; (try simp only [Act.put, List.setIfInBounds_toArray, List.set_cons_zero, List.set_cons_succ]))
    | (refine own_eql (t := 39) rfl rfl rfl rfl (by kernel_rfl) HE.out ?_; (try simp only [Act.put, List.setIfInBounds_toArray, List.set_cons_zero, List.set_cons_succ]))))
  cases b0
  case true =>
    have hz : s = zero12 := of_decide_eq_true HB.out
    subst hz
    rw [restL_zero]
    refine wpIn_cond_true rfl ?_
    refine wpIn_seq ?_
    refine wideRegion ?_
    go_wp2_with (first
      | ((with_reducible refine gate ?_); (first
      | ((refine own_box HO rfl rfl rfl ?_); clear HO; intro gN wN hgN HO; (simp only [List.nil_append, List.cons_append] at HO); (try simp only [Act.put, List.setIfInBounds_toArray, List.set_cons_zero, List.set_cons_succ]))
      | ((refine own_load (T := 23) HO rfl rfl rfl (by first | exact .head _ | exact .tail _ (.head _) | exact .tail _ (.tail _ (.head _)) | exact .tail _ (.tail _ (.tail _ (.head _))) | exact .tail _ (.tail _ (.tail _ (.tail _ (.head _)))) | exact .tail _ (.tail _ (.tail _ (.tail _ (.tail _ (.head _)))))) Try.isAgg23 Try.sizeOf23 (by repeat constructor) ?_); (try simp only [Act.put, List.setIfInBounds_toArray, List.set_cons_zero, List.set_cons_succ]))
      | ((refine own_store (T := 23) HO rfl rfl rfl rfl (by first | exact .here | exact .there (.here) | exact .there (.there (.here)) | exact .there (.there (.there (.here))) | exact .there (.there (.there (.there (.here)))) | exact .there (.there (.there (.there (.there (.here)))))) Try.sizeOf23 (by repeat constructor) rfl ?_); clear HO; intro wN HO; (try simp only [Act.put, List.setIfInBounds_toArray, List.set_cons_zero, List.set_cons_succ])))))
    refine wpIn_ret ?_
    exact ⟨_, own_results1 HO Try.results22 rfl (.tail _ (.tail _ (.head _))) Try.isAgg23 Try.sizeOf23 (by repeat constructor), rfl, HO.below⟩
  case false =>
    refine wpIn_cond_false rfl ?_
    refine wpIn_skip ?_
    refine wpIn_seq ?_
    refine wpIn_seq ?_
    refine wideRegion ?_
    go_wp2_with (go_at_call 31; refine (places_calls A _ c _).mono ?_; rintro eN wN ⟨v, rfl, ⟨g1, g3, gL, cap, rest, rfl, hg1, hg3, hgL, hc1, hc3, hcL, hcap⟩, hbN⟩; have hlt : gM < _ := HO.lt (.tail _ (.head _)); have HON := HO.call hbN; have HX := Lib.hid (And.intro (Nat.ne_of_gt (Nat.lt_of_lt_of_le hlt hg3)) (And.intro (Nat.ne_of_gt (Nat.lt_of_lt_of_le hlt hgL)) (And.intro hc1 (And.intro hc3 hcL)))); clear HO hbN hlt hg1 hg3 hgL hc1 hc3 hcL hcap; have HO := HON; clear HON)
    refine wpIn_block ?_
    obtain ⟨hX3, hXL, hc1, hc3, hcL⟩ := HX.out
    have hge : w.heap.size ≤ gM := (HO.held _ (.tail _ (.head _))).1
    have hlt : gM < wN.heap.size := HO.lt (.tail _ (.head _))
    refine wpIn_rangeFunc_ownG (F := Fence.wide) rfl (by omega) (gf := 41) (lb := #[.pointer (some ⟨g1, 0, none⟩), .pointer (some ⟨g3, 0, none⟩)]) rfl trivial (enters_of Try.func41 (by kernel_rfl) rfl)
      (places_stops 4 (by omega) wN.heap.size gM g1 g3 gL cap c rest A nums HN.out wN hc1 hc3 hcL ⟨(Array.getElem?_eq_some_iff.1 hc3).1, hX3⟩ ⟨(Array.getElem?_eq_some_iff.1 hcL).1, hXL⟩ (nums_of HC.out HO.below hge hlt)) (fun h k => h.trans k) (fun W l o o' hl _ _ _ k o2 hk hne h => (World.putObj_heap_other (show k ≠ l by omega)).trans h) (Below.refl _ _) (fun _ => rfl)
      (fun pre W => Mine w W [(gS, IsCells (u8s s) 39), (gM, IsCells [.bool (pre.foldl (stepR s) m).cursor, .bool (pre.foldl (stepR s) m).keypad, .bool (pre.foldl (stepR s) m).back, .bool (pre.foldl (stepR s) m).focus, .bool (pre.foldl (stepR s) m).paste, .bool (pre.foldl (stepR s) m).lock, .bool (pre.foldl (stepR s) m).line, .int .i64 (pre.foldl (stepR s) m).mouse, .int .i64 (pre.foldl (stepR s) m).coding, .int .i64 (pre.foldl (stepR s) m).other] 23), (gR, IsCells [.bool false, .bool false, .bool false, .bool false, .bool false, .bool false, .bool false, .int .i64 0, .int .i64 0, .int .i64 0] 23)])
      (fun _ _ _ => False)
      (mine_own _ (fun s p hp o ho => by
        simp only [List.mem_cons, List.not_mem_nil, or_false] at hp
        rcases hp with rfl | rfl | rfl <;> exact cells_isCells ho) (by have := HO.below.size; omega))
      (fun _ _ _ _ _ hs _ _ => hs) HO
      (fun x => { tmps := #[.agg (u8s s).toArray, m.v, .slice A nums.length c, .pointer (some ⟨gS, 0, none⟩), .pointer (some ⟨gM, 0, none⟩), undef, .pointer (some ⟨gR, 0, none⟩), .int .i64 (x.1.val : Int), .int .i64 x.2, .agg (u8s s).toArray, .agg #[.int .u8 0, .int .u8 0, .int .u8 0, .int .u8 0, .int .u8 0, .int .u8 0, .int .u8 0, .int .u8 0, .int .u8 0, .int .u8 0, .int .u8 0, .int .u8 0], .bool false, undef, .slice A nums.length c, .func (.func 41) #[] #[.pointer (some ⟨g1, 0, none⟩), .pointer (some ⟨g3, 0, none⟩)], .int .i64 (x.1.val : Int), .int .i64 x.2, undef, undef, undef, undef, undef, undef, undef, undef, undef, undef, undef, undef, undef, undef, undef, undef, undef, undef, undef, undef, undef], defers := [] }) ?assign ?body ?done ?stop
    case assign =>
      intro l x W K hK
      gi_wp2
      exact hK
    case body =>
      rintro l pre x W hI _
      clear HO hc1 hc3 hcL
      have HO := hI
      have HK := Keep.refl gM W
      clear hI
      obtain ⟨⟨j, hj⟩, y⟩ := x
      obtain ⟨F, hF⟩ : ∃ F, List.foldl (stepR s) m pre = F := ⟨_, rfl⟩
      obtain ⟨b, hb⟩ : ∃ b, s.getD j 0 = b := ⟨_, rfl⟩
      have hcell : (u8s s)[j]? = some (.int .u8 b) := by
        rw [← hb]
        have := HS.out
        simp [List.getD, show j < s.length by omega]
      have HCELL := Lib.hid hcell
      have hst : List.foldl (stepR s) m (pre ++ [(⟨j, hj⟩, y)]) = if b = 1 ∨ b = 2 then (setM F true y (b == 1)).1 else F := by
        rw [List.foldl_append, hF]
        show stepR s F (⟨j, hj⟩, y) = _
        unfold stepR
        simp only [hb]
      rw [hF] at HO
      have hj0 : (j : Int) < 12 := by omega
      clear hF hb hcell
      have HST := Lib.hid hst
      clear hst
      refine wpIn_block ?_
      refine wpIn_seq ?_
      refine inRegion (fun ⟨_, _, h⟩ => h) rfl ?_
      have h3 : b = 1 ∨ (b ≠ 1 ∧ b = 2) ∨ (b ≠ 1 ∧ b ≠ 2) := by omega
      rcases h3 with h1 | ⟨h1, h2⟩ | ⟨h1, h2⟩
      · subst h1
        obtain ⟨⟨r, ok⟩, hr⟩ : ∃ r, setM F true y true = r := ⟨_, rfl⟩
        have H3 : Hid (List.foldl (stepR s) m (pre ++ [(⟨j, hj⟩, y)]) = r) := Lib.hid (HST.out.trans (by rw [if_pos (by decide)]; show (setM F true y true).1 = r; rw [hr]))
        have HR := Lib.hid hr
        clear HST hr
        go_wp2_with ((with_reducible refine gate ?_); refine own_load1 (T := 5) HO rfl rfl rfl (.head _) Try.isAgg5 HCELL.out ?_; (try simp only [Act.put, List.setIfInBounds_toArray, List.set_cons_zero, List.set_cons_succ]))
        refine wpIn_cond_true rfl ?_
        refine region_putIn rfl 10 _ [fIs F.v, fIs (.int .i64 y), fIs (.int .i64 (j : Int)), fIs (.pointer (some ⟨gS, j, none⟩)), fIs (.int .u8 1), fIs (.bool true), fIs (.tuple #[r.v, .bool ok]), fIs (.tuple #[r.v, .bool ok]), fIs r.v, fIs (.bool ok)] ([fIs F.v, fIs (.int .i64 y), fIs (.int .i64 (j : Int)), fIs (.pointer (some ⟨gS, j, none⟩)), fIs (.int .u8 1), fIs (.bool true), fIs (.tuple #[r.v, .bool ok]), fIs (.tuple #[r.v, .bool ok]), fIs r.v, fIs (.bool ok)] ++ [fun _ w => Keep gM W w]) HO (by kernel_rfl) (by kernel_rfl) rfl (stays_cons (Stays.fIs _) (stays_cons (Stays.fIs _) (stays_cons (Stays.fIs _) (stays_cons (Stays.fIs _) (stays_cons (Stays.fIs _) (stays_cons (Stays.fIs _) (stays_cons (Stays.fIs _) (stays_cons (Stays.fIs _) (stays_cons (Stays.fIs _) (stays_cons (Stays.fIs _) stays_nil)))))))))) (stays_cons (Stays.fIs _) (stays_cons (Stays.fIs _) (stays_cons (Stays.fIs _) (stays_cons (Stays.fIs _) (stays_cons (Stays.fIs _) (stays_cons (Stays.fIs _) (stays_cons (Stays.fIs _) (stays_cons (Stays.fIs _) (stays_cons (Stays.fIs _) (stays_cons (Stays.fIs _) (stays_cons (Stays.keep gM W) stays_nil))))))))))) (bs' := [(gS, IsCells (u8s s) 39), (gM, IsCells [.bool r.cursor, .bool r.keypad, .bool r.back, .bool r.focus, .bool r.paste, .bool r.lock, .bool r.line, .int .i64 r.mouse, .int .i64 r.coding, .int .i64 r.other] 23), (gR, IsCells [.bool false, .bool false, .bool false, .bool false, .bool false, .bool false, .bool false, .int .i64 0, .int .i64 0, .int .i64 0] 23)]) ?_
        intro vals A hA
        simp [fillL, dstOf, List.range, List.range.loop, Act.put] at hA
        subst hA
        refine ⟨⟨?_, ?_, ?_, ?_, ?_, ?_, ?_, ?_, ?_, ?_, ?_, trivial⟩, ?_⟩
        case refine_1 =>
          refine Owes.before (by decide) (by kernel_rfl) ?_
          intro W2 hd hM hb0
          exact st_load hM rfl rfl rfl (.tail _ (.head _)) Try.isAgg23 Try.sizeOf23 (by repeat constructor) rfl
        case refine_2 =>
          refine Owes.before (by decide) (by kernel_rfl) ?_
          intro W2 hd hM hb0
          exact st_val rfl (by simp only [execOp]; first | (go_simp; done) | (go_simp; rfl)) rfl
        case refine_3 =>
          refine Owes.before (by decide) (by kernel_rfl) ?_
          intro W2 hd hM hb0
          exact st_val rfl (by simp only [execOp]; first | (go_simp; done) | (go_simp; rfl)) rfl
        case refine_4 =>
          refine Owes.before (by decide) (by kernel_rfl) ?_
          intro W2 hd hM hb0
          have v2 : vals 2 = .int .i64 (j : Int) := hd 2 (by kernel_rfl)
          rw [v2]
          exact st_val rfl (by simp only [execOp]; first | (go_simp; done) | (go_simp; rfl)) rfl
        case refine_5 =>
          refine Owes.before (by decide) (by kernel_rfl) ?_
          intro W2 hd hM hb0
          have v3 : vals 3 = .pointer (some ⟨gS, j, none⟩) := hd 3 (by kernel_rfl)
          rw [v3]
          exact st_load1 hM rfl rfl rfl (.head _) Try.isAgg5 HCELL.out rfl
        case refine_6 =>
          refine Owes.before (by decide) (by kernel_rfl) ?_
          intro W2 hd hM hb0
          have v4 : vals 4 = .int .u8 1 := hd 4 (by kernel_rfl)
          rw [v4]
          exact st_val rfl (by simp only [execOp]; first | (go_simp; done) | (go_simp; rfl)) rfl
        case refine_7 =>
          refine Owes.before (by decide) (by kernel_rfl) ?_
          intro W2 hd hM hb0
          have v0 : vals 0 = F.v := hd 0 (by kernel_rfl)
          have v1 : vals 1 = .int .i64 y := hd 1 (by kernel_rfl)
          have v5 : vals 5 = .bool true := hd 5 (by kernel_rfl)
          rw [v0, v1, v5]
          exact st_call rfl (by simp only [execOp]; first | (go_simp; done) | (go_simp; rfl)) (set_calls' F true y true r ok HR.out W2) (by rintro e w' ⟨rfl, hb⟩; exact ⟨_, rfl, hb, rfl⟩)
        case refine_8 =>
          refine Owes.before (by decide) (by kernel_rfl) ?_
          intro W2 hd hM hb0
          have v6 : vals 6 = .tuple #[r.v, .bool ok] := hd 6 (by kernel_rfl)
          rw [v6]
          exact st_val rfl (by simp only [execOp]; first | (go_simp; done) | (go_simp; rfl)) rfl
        case refine_9 =>
          refine Owes.before (by decide) (by kernel_rfl) ?_
          intro W2 hd hM hb0
          have v7 : vals 7 = .tuple #[r.v, .bool ok] := hd 7 (by kernel_rfl)
          rw [v7]
          exact st_val rfl (by simp only [execOp]; first | (go_simp; done) | (go_simp; rfl)) rfl
        case refine_10 =>
          refine Owes.after (by decide) (by kernel_rfl) ?_
          intro W2 hd
          have v7 : vals 7 = .tuple #[r.v, .bool ok] := (hd 7 (by kernel_rfl)).elim id id
          rw [v7]
          exact st_pure rfl (fun w => by simp only [execOp]; first | (go_simp; done) | (go_simp; rfl)) ⟨rfl, rfl⟩
        case refine_11 =>
          refine Owes.store ?_
          intro W2 hd hM hb0
          have v8 : vals 8 = r.v := hd 8 (by kernel_rfl)
          rw [v8]
          refine st_store (T := 23) (vs := [.bool r.cursor, .bool r.keypad, .bool r.back, .bool r.focus, .bool r.paste, .bool r.lock, .bool r.line, .int .i64 r.mouse, .int .i64 r.coding, .int .i64 r.other]) hM rfl rfl rfl rfl (.there .here) Try.sizeOf23 (by repeat constructor) rfl ?_
          intro W3 hM3 hb3 hoth hsz
          refine ⟨hM3, Kit.Keep.stored (HK.below hb0) hsz hoth, fun k hk hf => facts_turn (pure_cons (Pure.fIs _) (pure_cons (Pure.fIs _) (pure_cons (Pure.fIs _) (pure_cons (Pure.fIs _) (pure_cons (Pure.fIs _) (pure_cons (Pure.fIs _) (pure_cons (Pure.fIs _) (pure_cons (Pure.fIs _) (pure_cons (Pure.fIs _) (pure_cons (Pure.fIs _) pure_nil)))))))))) hk hf⟩
        case refine_12 =>
          intro W2 hd hM
          have HK2 : Keep gM W W2 := hd 10 (by decide)
          refine ⟨HK2.from hlt, HK2.kp _, ?_⟩
          dsimp only
          rw [H3.out]
          exact hM
      · subst h2
        clear h1
        obtain ⟨⟨r, ok⟩, hr⟩ : ∃ r, setM F true y false = r := ⟨_, rfl⟩
        have H3 : Hid (List.foldl (stepR s) m (pre ++ [(⟨j, hj⟩, y)]) = r) := Lib.hid (HST.out.trans (by rw [if_pos (by decide)]; show (setM F true y false).1 = r; rw [hr]))
        have HR := Lib.hid hr
        clear HST hr
        go_wp2_with ((with_reducible refine gate ?_); refine own_load1 (T := 5) HO rfl rfl rfl (.head _) Try.isAgg5 HCELL.out ?_; (try simp only [Act.put, List.setIfInBounds_toArray, List.set_cons_zero, List.set_cons_succ]))
        refine wpIn_cond_true rfl ?_
        refine region_putIn rfl 10 _ [fIs F.v, fIs (.int .i64 y), fIs (.int .i64 (j : Int)), fIs (.pointer (some ⟨gS, j, none⟩)), fIs (.int .u8 2), fIs (.bool false), fIs (.tuple #[r.v, .bool ok]), fIs (.tuple #[r.v, .bool ok]), fIs r.v, fIs (.bool ok)] ([fIs F.v, fIs (.int .i64 y), fIs (.int .i64 (j : Int)), fIs (.pointer (some ⟨gS, j, none⟩)), fIs (.int .u8 2), fIs (.bool false), fIs (.tuple #[r.v, .bool ok]), fIs (.tuple #[r.v, .bool ok]), fIs r.v, fIs (.bool ok)] ++ [fun _ w => Keep gM W w]) HO (by kernel_rfl) (by kernel_rfl) rfl (stays_cons (Stays.fIs _) (stays_cons (Stays.fIs _) (stays_cons (Stays.fIs _) (stays_cons (Stays.fIs _) (stays_cons (Stays.fIs _) (stays_cons (Stays.fIs _) (stays_cons (Stays.fIs _) (stays_cons (Stays.fIs _) (stays_cons (Stays.fIs _) (stays_cons (Stays.fIs _) stays_nil)))))))))) (stays_cons (Stays.fIs _) (stays_cons (Stays.fIs _) (stays_cons (Stays.fIs _) (stays_cons (Stays.fIs _) (stays_cons (Stays.fIs _) (stays_cons (Stays.fIs _) (stays_cons (Stays.fIs _) (stays_cons (Stays.fIs _) (stays_cons (Stays.fIs _) (stays_cons (Stays.fIs _) (stays_cons (Stays.keep gM W) stays_nil))))))))))) (bs' := [(gS, IsCells (u8s s) 39), (gM, IsCells [.bool r.cursor, .bool r.keypad, .bool r.back, .bool r.focus, .bool r.paste, .bool r.lock, .bool r.line, .int .i64 r.mouse, .int .i64 r.coding, .int .i64 r.other] 23), (gR, IsCells [.bool false, .bool false, .bool false, .bool false, .bool false, .bool false, .bool false, .int .i64 0, .int .i64 0, .int .i64 0] 23)]) ?_
        intro vals A hA
        simp [fillL, dstOf, List.range, List.range.loop, Act.put] at hA
        subst hA
        refine ⟨⟨?_, ?_, ?_, ?_, ?_, ?_, ?_, ?_, ?_, ?_, ?_, trivial⟩, ?_⟩
        case refine_1 =>
          refine Owes.before (by decide) (by kernel_rfl) ?_
          intro W2 hd hM hb0
          exact st_load hM rfl rfl rfl (.tail _ (.head _)) Try.isAgg23 Try.sizeOf23 (by repeat constructor) rfl
        case refine_2 =>
          refine Owes.before (by decide) (by kernel_rfl) ?_
          intro W2 hd hM hb0
          exact st_val rfl (by simp only [execOp]; first | (go_simp; done) | (go_simp; rfl)) rfl
        case refine_3 =>
          refine Owes.before (by decide) (by kernel_rfl) ?_
          intro W2 hd hM hb0
          exact st_val rfl (by simp only [execOp]; first | (go_simp; done) | (go_simp; rfl)) rfl
        case refine_4 =>
          refine Owes.before (by decide) (by kernel_rfl) ?_
          intro W2 hd hM hb0
          have v2 : vals 2 = .int .i64 (j : Int) := hd 2 (by kernel_rfl)
          rw [v2]
          exact st_val rfl (by simp only [execOp]; first | (go_simp; done) | (go_simp; rfl)) rfl
        case refine_5 =>
          refine Owes.before (by decide) (by kernel_rfl) ?_
          intro W2 hd hM hb0
          have v3 : vals 3 = .pointer (some ⟨gS, j, none⟩) := hd 3 (by kernel_rfl)
          rw [v3]
          exact st_load1 hM rfl rfl rfl (.head _) Try.isAgg5 HCELL.out rfl
        case refine_6 =>
          refine Owes.before (by decide) (by kernel_rfl) ?_
          intro W2 hd hM hb0
          have v4 : vals 4 = .int .u8 2 := hd 4 (by kernel_rfl)
          rw [v4]
          exact st_val rfl (by simp only [execOp]; first | (go_simp; done) | (go_simp; rfl)) rfl
        case refine_7 =>
          refine Owes.before (by decide) (by kernel_rfl) ?_
          intro W2 hd hM hb0
          have v0 : vals 0 = F.v := hd 0 (by kernel_rfl)
          have v1 : vals 1 = .int .i64 y := hd 1 (by kernel_rfl)
          have v5 : vals 5 = .bool false := hd 5 (by kernel_rfl)
          rw [v0, v1, v5]
          exact st_call rfl (by simp only [execOp]; first | (go_simp; done) | (go_simp; rfl)) (set_calls' F true y false r ok HR.out W2) (by rintro e w' ⟨rfl, hb⟩; exact ⟨_, rfl, hb, rfl⟩)
        case refine_8 =>
          refine Owes.before (by decide) (by kernel_rfl) ?_
          intro W2 hd hM hb0
          have v6 : vals 6 = .tuple #[r.v, .bool ok] := hd 6 (by kernel_rfl)
          rw [v6]
          exact st_val rfl (by simp only [execOp]; first | (go_simp; done) | (go_simp; rfl)) rfl
        case refine_9 =>
          refine Owes.before (by decide) (by kernel_rfl) ?_
          intro W2 hd hM hb0
          have v7 : vals 7 = .tuple #[r.v, .bool ok] := hd 7 (by kernel_rfl)
          rw [v7]
          exact st_val rfl (by simp only [execOp]; first | (go_simp; done) | (go_simp; rfl)) rfl
        case refine_10 =>
          refine Owes.after (by decide) (by kernel_rfl) ?_
          intro W2 hd
          have v7 : vals 7 = .tuple #[r.v, .bool ok] := (hd 7 (by kernel_rfl)).elim id id
          rw [v7]
          exact st_pure rfl (fun w => by simp only [execOp]; first | (go_simp; done) | (go_simp; rfl)) ⟨rfl, rfl⟩
        case refine_11 =>
          refine Owes.store ?_
          intro W2 hd hM hb0
          have v8 : vals 8 = r.v := hd 8 (by kernel_rfl)
          rw [v8]
          refine st_store (T := 23) (vs := [.bool r.cursor, .bool r.keypad, .bool r.back, .bool r.focus, .bool r.paste, .bool r.lock, .bool r.line, .int .i64 r.mouse, .int .i64 r.coding, .int .i64 r.other]) hM rfl rfl rfl rfl (.there .here) Try.sizeOf23 (by repeat constructor) rfl ?_
          intro W3 hM3 hb3 hoth hsz
          refine ⟨hM3, Kit.Keep.stored (HK.below hb0) hsz hoth, fun k hk hf => facts_turn (pure_cons (Pure.fIs _) (pure_cons (Pure.fIs _) (pure_cons (Pure.fIs _) (pure_cons (Pure.fIs _) (pure_cons (Pure.fIs _) (pure_cons (Pure.fIs _) (pure_cons (Pure.fIs _) (pure_cons (Pure.fIs _) (pure_cons (Pure.fIs _) (pure_cons (Pure.fIs _) pure_nil)))))))))) hk hf⟩
        case refine_12 =>
          intro W2 hd hM
          have HK2 : Keep gM W W2 := hd 10 (by decide)
          refine ⟨HK2.from hlt, HK2.kp _, ?_⟩
          dsimp only
          rw [H3.out]
          exact hM
      · have b1 : (b == 1) = false := beq_eq_false_iff_ne.2 h1
        have b2 : (b == 2) = false := beq_eq_false_iff_ne.2 h2
        have H3 : Hid (List.foldl (stepR s) m (pre ++ [(⟨j, hj⟩, y)]) = F) := Lib.hid (HST.out.trans (by rw [if_neg (by omega)]))
        clear HST h1 h2
        go_wp2_with ((with_reducible refine gate ?_); refine own_load1 (T := 5) HO rfl rfl rfl (.head _) Try.isAgg5 HCELL.out ?_; (try simp only [Act.put, List.setIfInBounds_toArray, List.set_cons_zero, List.set_cons_succ]))
        refine wpIn_cond_false rfl ?_
        refine wpIn_skip ?_
        refine ⟨HK.from hlt, HK.kp _, ?_⟩
        dsimp only
        rw [H3.out]
        exact HO
    case done =>
      rintro D ys W hD rfl hI hK
      clear HO hc1 hc3 hcL
      have HO := hI
      clear hI
      obtain ⟨F, hF⟩ : ∃ F, List.foldl (stepR s) m (pairsL nums) = F := ⟨_, rfl⟩
      rw [hF] at HO
      have hsv : restL s m nums = F := hF
      rw [hsv]
      have HXS : XS 23 (fun w : World => w.heap[D]? = some (.deferred (some []))) := fun w g cs cs' h hg => (setRow_other w g D _ (fun e => by subst e; dsimp only at h; rw [hg] at h; cases h)).trans h
      have hD2 : w.heap.size ≤ D := by omega
      clear hF hsv
      refine wpIn_seq ?_
      refine wideRegion ?_
      go_wp2_with ((with_reducible refine gate ?_); (first
        | (refine own_load (T := 23) HO rfl rfl rfl (.tail _ (.head _)) Try.isAgg23 Try.sizeOf23 (by repeat constructor) ?_; (try simp only [Act.put, List.setIfInBounds_toArray, List.set_cons_zero, List.set_cons_succ]))
        | (refine own_storeX (T := 23) (vs := [.bool F.cursor, .bool F.keypad, .bool F.back, .bool F.focus, .bool F.paste, .bool F.lock, .bool F.line, .int .i64 F.mouse, .int .i64 F.coding, .int .i64 F.other]) HO (X := fun w : World => w.heap[D]? = some (.deferred (some []))) hK rfl rfl rfl rfl (.there (.there .here)) HXS Try.sizeOf23 (by repeat constructor) rfl ?_; clear HO hK; intro wN HO hK; (try simp only [Act.put, List.setIfInBounds_toArray, List.set_cons_zero, List.set_cons_succ]))))
      refine wpIn_ret ?_
      have HO2 : Mine w (wN.putObj D (.deferred none)) _ := (mine_own (β := Unit) (B := w.heap.size) (fun _ => _) (fun s p hp o ho => by
        simp only [List.mem_cons, List.not_mem_nil, or_false] at hp
        rcases hp with rfl | rfl | rfl <;> exact cells_isCells ho) (Nat.le_refl _)).putObj (s := ()) _ HO hD2 hK rfl
      refine ⟨by simp, .inl ⟨_, _, rfl, run_takeDeferred hK, ?_⟩⟩
      exact ⟨_, own_results1 HO2 Try.results22 rfl (.tail _ (.tail _ (.head _))) Try.isAgg23 Try.sizeOf23 (by repeat constructor), rfl, HO2.below⟩
    case stop =>
      rintro D c pre W _ _ h _
      exact h.elim
end Go.Proofs.Ytllloedhlcdbjaa
end
section
namespace Go.Proofs.Ytllloedhlcdbjaa
set_option linter.unusedVariables false
set_option linter.unusedSimpArgs false
open Go.RowKit Kit Go.Proofs.YtllloedhlcdbjaaW.PrintWords
theorem len12 {R : List Int} (h : R.length = 12) : (u8s R).length = 12 := by simp [h]
theorem slc12 {R : List Int} (h : R.length = 12) : Slc (u8s R) 0 12 (u8s R) := by have := Slc.all (u8s R); rwa [len12 h] at this
theorem size12 {R : List Int} (h : R.length = 12) : ∀ w, (sizeOf 39).run Try.prog w = .ok (u8s R).length w := by rw [len12 h]; exact Try.sizeOf39
theorem one12 (R : List Int) : (u8s R).all (·.oneCell') = true := by rw [List.all_eq_true]; intro v hv; obtain ⟨z, _, rfl⟩ := List.mem_map.1 hv; rfl
theorem saveL_len (m : Md) (s : List Int) (nums : List Int) : (saveL m s nums).length = s.length := foldS_len m _ s
attribute [local irreducible] wpList Calls wpQuiet
def mPaste : Md := { Md.zero with paste := true }
def sPaste : List Int := [0, 0, 0, 0, 0, 0, 0, 0, 0, 0, 0, 1]
theorem awake_save : saveL mPaste zero12 [2004] = sPaste := by decide
theorem awake_rest : restL sPaste Md.zero [1, 2004] = mPaste := by decide
set_option maxRecDepth 100000 in
set_option maxHeartbeats 4000000 in
theorem awake07_calls (w : World) :
    Calls Try.prog 19 #[] w fun e w' => e = .returned (.bool true) ∧ Below w.heap.size w w' := by
  have HO := Mine.start w
  have HE1 : Hid (∀ w, (Op.equal 39 (.agg (u8s sPaste).toArray) (.agg #[.int .u8 0, .int .u8 0, .int .u8 0, .int .u8 0, .int .u8 0, .int .u8 0, .int .u8 0, .int .u8 0, .int .u8 0, .int .u8 0, .int .u8 0, .int .u8 1])).run Try.prog w = .ok true w) := Lib.hid fun w => (equal_saved sPaste sPaste rfl rfl w).trans (by rw [decide_eq_true rfl])
  have HE2 : Hid (∀ w, (Op.equal 23 mPaste.v mPaste.v).run Try.prog w = .ok true w) := Lib.hid fun w => (equal_modes mPaste mPaste w).trans (by rw [decide_eq_true rfl])
  go_enter Try.func19, Try.ntmps19
  go_wp2_with (first
      | (go_at_call 20; refine ((save_calls zero12 rfl mPaste (some ⟨gQ, 0, none⟩) 1 [2004] (by decide) _ (Kit.lit_ints (HO.at (by first | exact .head _ | exact .tail _ (.head _) | exact .tail _ (.tail _ (.head _)) | exact .tail _ (.tail _ (.tail _ (.head _))) | exact .tail _ (.tail _ (.tail _ (.tail _ (.head _)))) | exact .tail _ (.tail _ (.tail _ (.tail _ (.tail _ (.head _))))) | exact .tail _ (.tail _ (.tail _ (.tail _ (.tail _ (.tail _ (.head _)))))) | exact .tail _ (.tail _ (.tail _ (.tail _ (.tail _ (.tail _ (.tail _ (.head _))))))))) (by decide)))).mono ?_; rw [awake_save]; rintro eN wN ⟨rfl, hbN⟩; have HON := HO.call hbN; clear HO hbN; have HO := HON; clear HON)
      | (go_at_call 22; refine ((restore_calls sPaste rfl Md.zero (some ⟨gR, 0, none⟩) 2 [1, 2004] (by decide) _ (Kit.lit_ints (HO.at (by first | exact .head _ | exact .tail _ (.head _) | exact .tail _ (.tail _ (.head _)) | exact .tail _ (.tail _ (.tail _ (.head _))) | exact .tail _ (.tail _ (.tail _ (.tail _ (.head _)))) | exact .tail _ (.tail _ (.tail _ (.tail _ (.tail _ (.head _))))) | exact .tail _ (.tail _ (.tail _ (.tail _ (.tail _ (.tail _ (.head _)))))) | exact .tail _ (.tail _ (.tail _ (.tail _ (.tail _ (.tail _ (.tail _ (.head _))))))))) (by decide)))).mono ?_; rw [awake_rest]; rintro eN wN ⟨rfl, hbN⟩; have HON := HO.call hbN; clear HO hbN; have HO := HON; clear HON)
      | ((with_reducible refine gate ?_); (first
      | ((with_reducible refine gateAt (N := 1) rfl ?_); refine own_alloc (T := 23) HO rfl rfl Try.zeroValue23 rfl ?_; clear HO; intro gM wN hggM HO; (simp only [List.nil_append, List.cons_append] at HO); (try simp only [Act.put, List.setIfInBounds_toArray, List.set_cons_zero, List.set_cons_succ]))
      | ((with_reducible refine gateAt (N := 2) rfl ?_); refine own_alloc (T := 39) HO rfl rfl Try.zeroValue39 rfl ?_; clear HO; intro gS wN hggS HO; (simp only [List.nil_append, List.cons_append] at HO); (try simp only [Act.put, List.setIfInBounds_toArray, List.set_cons_zero, List.set_cons_succ]))
      | ((with_reducible refine gateAt (N := 3) rfl ?_); refine own_alloc (T := 23) HO rfl rfl Try.zeroValue23 rfl ?_; clear HO; intro gN wN hggN HO; (simp only [List.nil_append, List.cons_append] at HO); (try simp only [Act.put, List.setIfInBounds_toArray, List.set_cons_zero, List.set_cons_succ]))
      | ((with_reducible refine gateAt (N := 7) rfl ?_); refine own_lit HO rfl (n := 1) (cs := [.int .i64 (2004)]) (T := 3) (by first | (go_simp; done) | (go_simp; rfl)) ?_; clear HO; intro gQ wN hggQ HO; (simp only [List.nil_append, List.cons_append] at HO); (try simp only [Act.put, List.setIfInBounds_toArray, List.set_cons_zero, List.set_cons_succ]))
      | ((with_reducible refine gateAt (N := 11) rfl ?_); refine own_lit HO rfl (n := 2) (cs := [.int .i64 (1), .int .i64 (2004)]) (T := 3) (by first | (go_simp; done) | (go_simp; rfl)) ?_; clear HO; intro gR wN hggR HO; (simp only [List.nil_append, List.cons_append] at HO); (try simp only [Act.put, List.setIfInBounds_toArray, List.set_cons_zero, List.set_cons_succ]))
      | ((with_reducible refine gate ?_); refine own_load (T := 39) (n := 12) (vs := u8s sPaste) HO rfl rfl rfl (by first | exact .head _ | exact .tail _ (.head _) | exact .tail _ (.tail _ (.head _)) | exact .tail _ (.tail _ (.tail _ (.head _))) | exact .tail _ (.tail _ (.tail _ (.tail _ (.head _)))) | exact .tail _ (.tail _ (.tail _ (.tail _ (.tail _ (.head _))))) | exact .tail _ (.tail _ (.tail _ (.tail _ (.tail _ (.tail _ (.head _)))))) | exact .tail _ (.tail _ (.tail _ (.tail _ (.tail _ (.tail _ (.tail _ (.head _)))))))) Try.isAgg39 Try.sizeOf39 (slc12 rfl) ?_; (try simp only [Act.put, List.setIfInBounds_toArray, List.set_cons_zero, List.set_cons_succ]))
      | ((with_reducible refine gate ?_); refine own_store (T := 39) (vs := u8s sPaste) HO rfl rfl rfl rfl (by first | exact .here | exact .there (.here) | exact .there (.there (.here)) | exact .there (.there (.there (.here))) | exact .there (.there (.there (.there (.here)))) | exact .there (.there (.there (.there (.there (.here))))) | exact .there (.there (.there (.there (.there (.there (.here)))))) | exact .there (.there (.there (.there (.there (.there (.there (.here)))))))) (size12 rfl) (by exact PutAt.all _ _ (len12 rfl)) (one12 sPaste) ?_; clear HO; intro wN HO; (try simp only [Act.put, List.setIfInBounds_toArray, List.set_cons_zero, List.set_cons_succ]))
      | ((refine own_eql (t := 39) rfl rfl rfl rfl (by kernel_rfl) HE1.out ?_); (try simp only [Act.put, List.setIfInBounds_toArray, List.set_cons_zero, List.set_cons_succ]))
      | ((refine own_eql (t := 23) rfl rfl rfl rfl (by kernel_rfl) HE2.out ?_); (try simp only [Act.put, List.setIfInBounds_toArray, List.set_cons_zero, List.set_cons_succ]))
      | ((refine own_box HO rfl rfl rfl ?_); clear HO; intro gN wN hgN HO; (simp only [List.nil_append, List.cons_append] at HO); (try simp only [Act.put, List.setIfInBounds_toArray, List.set_cons_zero, List.set_cons_succ]))
      | ((refine own_load (T := 23) HO rfl rfl rfl (by first | exact .head _ | exact .tail _ (.head _) | exact .tail _ (.tail _ (.head _)) | exact .tail _ (.tail _ (.tail _ (.head _))) | exact .tail _ (.tail _ (.tail _ (.tail _ (.head _)))) | exact .tail _ (.tail _ (.tail _ (.tail _ (.tail _ (.head _))))) | exact .tail _ (.tail _ (.tail _ (.tail _ (.tail _ (.tail _ (.head _)))))) | exact .tail _ (.tail _ (.tail _ (.tail _ (.tail _ (.tail _ (.tail _ (.head _)))))))) Try.isAgg23 Try.sizeOf23 (by repeat constructor) ?_); (try simp only [Act.put, List.setIfInBounds_toArray, List.set_cons_zero, List.set_cons_succ]))
      | ((refine own_store (T := 23) HO rfl rfl rfl rfl (by first | exact .here | exact .there (.here) | exact .there (.there (.here)) | exact .there (.there (.there (.here))) | exact .there (.there (.there (.there (.here)))) | exact .there (.there (.there (.there (.there (.here))))) | exact .there (.there (.there (.there (.there (.there (.here)))))) | exact .there (.there (.there (.there (.there (.there (.there (.here)))))))) Try.sizeOf23 (by repeat constructor) rfl ?_); clear HO; intro wN HO; (try simp only [Act.put, List.setIfInBounds_toArray, List.set_cons_zero, List.set_cons_succ])))))
  go_ret
  exact ⟨rfl, HO.below⟩
end Go.Proofs.Ytllloedhlcdbjaa
end
section
namespace Go.Proofs.Ytllloedhlcdbjaa
open Go.ChangeShapes Go.WideShapes Go.ChangeAt Go.RowKit
set_option linter.unusedVariables false
set_option linter.unusedSimpArgs false
set_option maxRecDepth 100000
section
variable {H : Type} {enc : TypeId × Value → H} {W : World} {base : Nat} {spare : Nat → Bool} {held : Bool} {v : Value} {d : DataW H} {p : List MemPlace} {r : Reach} {b0 : Nat}
theorem open_saved (hv : Value.okWide Try.prog W r b0 38 v) (h : DataW.Trod enc Try.prog W base spare held 38 v d p) : ∃ s : List Int, s.length = 12 ∧ v = .agg (u8s s).toArray ∧ ∀ x ∈ s, (Lit.int .u8 x).wf = true := by
  obtain ⟨cs, rfl, hsz⟩ := okWide_array Try.underlying38 hv
  have hc0 : Try.prog.cellsOf 38 = 12 := by kernel_rfl
  have hc1 : Try.prog.cellsOf 5 = 1 := by kernel_rfl
  rw [hc0] at hsz
  obtain ⟨fuel, hf⟩ := h
  obtain ⟨xs, n, _, _, _, hlen, hx⟩ := DataW.trod_array Try.underlying38 hf
  rw [hc1] at hx
  have hcl2 : cs.toList.length = 12 := by simpa using hsz
  have one : ∀ i, i < 12 → ∃ y, cs.toList[i]? = some (.int .u8 y) ∧ (Lit.int .u8 y).wf = true := by
    intro i hi
    have e := hx i hi
    have x0 : xs[i]? = some xs[i] := by simp [hlen, hi]
    rw [x0, Nat.mul_one] at e
    have e2 : (Value.agg cs).cells.toList = cs.toList := rfl
    rw [e2] at e
    obtain ⟨y, z, hy⟩ := DataW.trod_int Try.underlying5 e
    refine ⟨y, ?_, hy.2⟩
    have h1 : (List.take 1 (List.drop i cs.toList))[0]? = some (.int .u8 y) := by rw [z]; rfl
    simpa using h1
  obtain ⟨s, hs⟩ : ∃ s : List Int, s = cs.toList.map fun v => match v with | .int _ y => y | _ => 0 := ⟨_, rfl⟩
  have hsl : s.length = 12 := by rw [hs, List.length_map]; exact hcl2
  have hcs : u8s s = cs.toList := by
    apply List.ext_getElem?
    intro i
    by_cases hi : i < 12
    · obtain ⟨y, hy, _⟩ := one i hi
      rw [hs]
      simp only [u8s, List.map_map, List.getElem?_map, hy]
      rfl
    · rw [List.getElem?_eq_none (by simp [hsl]; omega), List.getElem?_eq_none (by rw [hcl2]; omega)]
  refine ⟨s, hsl, by rw [hcs], fun x hxs => ?_⟩
  obtain ⟨i, hi, he⟩ := List.mem_iff_getElem.1 hxs
  obtain ⟨y, hy, hw⟩ := one i (by omega)
  have : (u8s s)[i]? = some (.int .u8 y) := by rw [hcs]; exact hy
  simp [hi] at this
  rw [← he, this]
  exact hw
end
end Go.Proofs.Ytllloedhlcdbjaa
end
section
namespace Go.Proofs.Ytllloedhlcdbjaa
open Go.ChangeShapes Go.WideShapes Go.ChangeAt Go.RowKit Go.Proofs.YtllloedhlcdbjaaW.PrintWords Kit
set_option linter.unusedVariables false
set_option maxRecDepth 100000
set_option linter.unusedSimpArgs false
theorem cellsOne_int : Try.prog.cellsOf 3 = 1 := by kernel_rfl
end Go.Proofs.Ytllloedhlcdbjaa
end
section
namespace Go.Proofs.Ytllloedhlcdbjaa
set_option linter.unusedVariables false
set_option linter.unusedSimpArgs false
open Go.RowKit Kit
namespace Kit
section
variable {P : Program} {Q : Exit → Act → World → Prop}
theorem region_law (k : Nat) (fs : List Fact) {id : Nat} {l : List Oper} {a0 : Act} {W0 w0 : World} {bs : Res} (HO : Mine W0 w0 bs) (hm : P.follows .mixedOrders = true) (hB : anyOk l.toArray = true) (hk : decide (k ≤ l.length) = true) (hT : tailOk l.toArray k = true)
    (hs : ∀ p ∈ fs, Stays p)
    (h : ∀ vals A, A = fillL l.toArray vals (List.range k) a0 →
      eachFrom (fun i o => ∀ w, (∀ j, waits l.toArray o j = true → Facts fs j (vals j) w) → Mine W0 w bs → Below w0.heap.size w0 w → StepOk P l.toArray o A w fun v w' => Below w.heap.size w w' ∧ Facts fs i v w') 0 (l.take k) ∧
      ∀ w, (∀ i < k, Facts fs i (vals i) w) → Mine W0 w bs → Below w0.heap.size w0 w → wpList P l.toArray Q (l.drop k) A w) :
    (Code.region id l.toArray true).wp P Q a0 w0 := by
  refine wp_region_walk k hm hB hk hT (fun w => Mine W0 w bs ∧ Below w0.heap.size w0 w) (fun a b => Below a.heap.size a b) (fun _ => []) (fun i vals w => Facts fs i (vals i) w) ?_ (fun i vals w w' h1 h2 => Facts.stays hs i _ _ _ h1 h2) (fun i vals vals' w e _ h1 => by rw [e]; exact h1) ⟨HO.drew, (Below.refl _ _).drew⟩ ?_
  · refine List.all_eq_true.2 fun i _ => ?_
    cases l[i]? <;> simp
  · intro vals A hA
    obtain ⟨h1, h2⟩ := h vals A hA
    refine ⟨?_, fun w hf hI => h2 w hf hI.1 hI.2⟩
    have mono : ∀ (R R' : Nat → Oper → Prop), (∀ i o, R i o → R' i o) → ∀ (l : List Oper) (k : Nat), eachFrom R k l → eachFrom R' k l := by
      intro R R' hR l
      induction l with
      | nil => intro k _; trivial
      | cons o l ih => intro k hk; exact ⟨hR _ _ hk.1, ih _ hk.2⟩
    refine mono _ _ (fun i o hi w hf hI => ?_) _ _ h1
    have h3 := hi w hf hI.1 hI.2
    have k2 : ∀ {v w'}, (Below w.heap.size w w' ∧ Facts fs i v w') → ((Mine W0 w' bs ∧ Below w0.heap.size w0 w') ∧ Below w.heap.size w w' ∧ ∀ vals' : Nat → Value, vals' i = v → (∀ d ∈ ([] : List Nat), vals' d = vals d) → Facts fs i (vals' i) w') := by
      rintro v w' ⟨hb, hf⟩
      exact ⟨⟨hI.1.call hb, hI.2.trans (hb.mono hI.2.size)⟩, hb, fun vals' e _ => by rw [e]; exact hf⟩
    unfold StepOk at h3 ⊢
    split
    · rename_i hw
      rw [if_pos hw] at h3
      generalize (execOp A.eval o).run P w = r at h3 ⊢
      cases r with
      | ok n w' =>
        cases n <;> simp only [StepUpon] at h3 ⊢
        case value u => exact k2 h3
        case skip => exact k2 h3
        case enter f args => exact h3.mono fun e w'' he => by obtain ⟨v, rfl, hk⟩ := he; exact ⟨v, rfl, k2 hk⟩
      | halt x w' => simp only [StepUpon] at h3
    · rename_i hw
      rw [if_neg hw] at h3
      exact k2 h3
end
end Kit
end Go.Proofs.Ytllloedhlcdbjaa
end
section
namespace Go.Proofs.Ytllloedhlcdbjaa
set_option linter.unusedVariables false
set_option linter.unusedSimpArgs false
open Go.RowKit Kit Go.Proofs.YtllloedhlcdbjaaW.PrintWords
namespace Kit
theorem Pure.fAny : Pure fAny := fun _ _ _ h => h
end Kit
end Go.Proofs.Ytllloedhlcdbjaa
end
section
namespace Go.Proofs.YtllloedhlcdbjaaW.PrintLast
section
variable {md : Region.Mode} {ops : Array Oper} {T : Bool × List (List Nat × List Nat)} {l l' li lj lk : Array Bool} {ds : List Nat} {i j k : Nat}
theorem set_of (h : (l.toList.set i true == l'.toList) = true) : (l.setIfInBounds i true == l') = true := by
  rw [beq_iff_eq] at h ⊢
  apply Array.ext'
  rw [Array.toList_setIfInBounds]
  exact h
end
end Go.Proofs.YtllloedhlcdbjaaW.PrintLast
end
section
namespace Go.Proofs.YtllloedhlcdbjaaW.PrintWords
open Go.RowKit
namespace Kd
structure Heap {α : Type} (d : Kd α) : Prop where
  K : ∀ {w w1 : World} {x : α} {cs : List Value}, (∀ k, k < w.heap.size → w1.heap[k]? = w.heap[k]?) → d.K w x cs → d.K w1 x cs
theorem cell_heap {w w1 : World} (hb : ∀ k, k < w.heap.size → w1.heap[k]? = w.heap[k]?) {a : Addr} {v : Value} (h : w.cell? a = some v) : w1.cell? a = some v := by
  have := hb a.block (World.block_lt_of_cell? w a h)
  simpa [World.cell?, this] using h
theorem Heap.C {α : Type} {d : Kd α} (hd : Heap d) {w w1 : World} {A : Option Addr} {n : Nat} {xs : List α} (hb : ∀ k, k < w.heap.size → w1.heap[k]? = w.heap[k]?) (h : d.C w A n xs) : d.C w1 A n xs :=
  ⟨h.1, h.2.1, fun hn => by
    obtain ⟨ad, e, hc⟩ := h.2.2 hn
    refine ⟨ad, e, fun j p hj => ?_⟩
    obtain ⟨c, hs, hr, hcell⟩ := hc j p hj
    exact ⟨c, hs, hd.K hb hr, fun i u hu => cell_heap hb (hcell i u hu)⟩⟩
end Kd
end Go.Proofs.YtllloedhlcdbjaaW.PrintWords
end
section
namespace Go.Proofs.YtllloedhlcdbjaaW.PrintWords
open Go.RowKit
def Kept (w W : World) (S : Nat → Prop) : Prop := w.heap.size ≤ W.heap.size ∧ ∀ i, i < w.heap.size → ¬ S i → W.heap[i]? = w.heap[i]?
section
variable {w W W2 : World} {S S2 S' : Nat → Prop}
theorem Kept.refl (w : World) (S : Nat → Prop) : Kept w w S := ⟨Nat.le_refl _, fun _ _ _ => rfl⟩
theorem Kept.of_below (h : Below w.heap.size w W) (S : Nat → Prop) : Kept w W S := ⟨h.size, fun i hi _ => h.block i hi⟩
theorem Kept.mono (h : Kept w W S) (hs : ∀ k, S k → S' k) : Kept w W S' := ⟨h.1, fun i hi hn => h.2 i hi (fun hk => hn (hs i hk))⟩
theorem Kept.then_ (h : Kept w W S) (k : Kept W W2 S2) (hs : ∀ k, S2 k → S k ∨ w.heap.size ≤ k) : Kept w W2 S :=
  ⟨Nat.le_trans h.1 k.1, fun i hi hn => (k.2 i (Nat.lt_of_lt_of_le hi h.1) (fun h2 => (hs i h2).elim hn (fun h3 => by omega))).trans (h.2 i hi hn)⟩
theorem Kept.below (h : Kept w W S) (hb : Below W.heap.size W W2) : Kept w W2 S := h.then_ (Kept.of_below hb (fun _ => False)) (fun _ hk => hk.elim)
theorem Kept.alloc (h : Kept w W S) (o : Obj) : Kept w (W.alloc o) S := h.below (below_alloc (Below.refl _ _) o)
theorem Kept.drew (h : Kept w W S) : Kept w W.drew S := h
theorem Kept.drewN (h : Kept w W S) (m : Nat) : Kept w (W.drewN m) S := h
theorem Kept.setCell (h : Kept w W S) {p : Addr} (hp : S p.block ∨ w.heap.size ≤ p.block) (u : Value) : Kept w (W.setCell p u) S :=
  h.then_ (S2 := fun k => k = p.block) ⟨by simp [World.setCell], fun i _ hn => Below.heap_setCell W p u i hn⟩ (fun k hk => by rw [hk]; exact hp)
theorem Kept.keep {g : Nat} (h : KeepBut w W g none) (k : Kept W W2 S2) (hs : ∀ k, S2 k → w.heap.size ≤ k) : KeepBut w W2 g none :=
  ⟨Nat.le_trans h.1 k.1, fun i hi hg hr => (k.2 i (Nat.lt_of_lt_of_le hi h.1) (fun h2 => by have := hs i h2; omega)).trans (h.2 i hi hg hr)⟩
end
end Go.Proofs.YtllloedhlcdbjaaW.PrintWords
end
section
namespace Go.Proofs.YtllloedhlcdbjaaW.PrintWords
open Go.RowKit
def Foot (P : World → Prop) (W : World) (ok : Nat → Prop) : Prop := ∀ W' : World, (∀ k, ok k → k < W.heap.size → W'.heap[k]? = W.heap[k]?) → P W'
namespace Foot
variable {P Q : World → Prop} {W W1 : World} {ok ok' : Nat → Prop}
theorem mono (h : Foot P W ok) (hok : ∀ k, ok k → ok' k) : Foot P W ok' := fun W' hW => h W' (fun k hk hlt => hW k (hok k hk) hlt)
end Foot
namespace Kd
def F {α : Type} (d : Kd α) (W : World) (ok : Nat → Prop) (A : Option Addr) (n : Nat) (xs : List α) : Prop := Foot (fun W => d.C W A n xs) W ok
def FK {α : Type} (d : Kd α) (W : World) (ok : Nat → Prop) (x : α) (c : List Value) : Prop := Foot (fun W => d.K W x c) W ok
end Kd
end Go.Proofs.YtllloedhlcdbjaaW.PrintWords
end
section
namespace Go.Proofs.YtllloedhlcdbjaaW.PrintWords
open Go.RowKit
namespace Kd
section
variable {α : Type} {d : Kd α} {e base n cc g : Nat} {ok ok' okp S : Nat → Prop} {w w1 W W1 : World} {A : Option Addr} {u v v1 : Value} {xs : List α} {x : α} {c : List Value}
def N {α : Type} (d : Kd α) (e : Nat) (w : World) (base : Nat) (ok : Nat → Prop) (v : Value) (xs : List α) : Prop :=
  (∀ k, v.ownBlock = some k → ok k) ∧ ∃ rows : List (List Value), rows.length = xs.length ∧ (raw d.sz).R e w base (fun k => some k = v.ownBlock) v rows ∧ ∀ (j : Nat) (x : α) (c : List Value), xs[j]? = some x → rows[j]? = some c → FK d w (fun k => ok k ∧ some k ≠ v.ownBlock) x c
end
end Kd
end Go.Proofs.YtllloedhlcdbjaaW.PrintWords
end
section
namespace Go.Proofs.YtllloedhlcdbjaaW.PrintWords
theorem Reps.one {α : Type} {R : α → List Value → Prop} {ps : List α} {cs : List Value} {p : α} {v : Value} (hp : R p [v]) (h : Reps R 1 ps cs) : Reps R 1 (p :: ps) (v :: cs) := by
  refine ⟨by simp [h.1], fun j q hq => ?_⟩
  cases j with
  | zero =>
    simp only [List.getElem?_cons_zero, Option.some.injEq] at hq
    subst hq
    simpa using hp
  | succ j =>
    simp only [List.getElem?_cons_succ] at hq
    have h1 := h.2 j q hq
    simpa [Nat.mul_one] using h1
theorem Reps.front {α : Type} {R : α → List Value → Prop} {size : Nat} {ps : List α} {cs c all : List Value} {p : α} (hp : R p c) (hc : c.length = size) (h : Reps R size ps cs) (ha : c ++ cs = all) : Reps R size (p :: ps) all := by
  subst ha
  refine ⟨by rw [List.length_append, hc, h.1, List.length_cons, Nat.succ_mul, Nat.add_comm], fun j q hq => ?_⟩
  cases j with
  | zero =>
    simp only [List.getElem?_cons_zero, Option.some.injEq] at hq
    subst hq
    rw [Nat.zero_mul, List.drop_zero, List.take_append_of_le_length (by omega), List.take_of_length_le (by omega)]
    exact hp
  | succ j =>
    simp only [List.getElem?_cons_succ] at hq
    have h1 := h.2 j q hq
    rw [Nat.succ_mul, List.drop_append, List.drop_of_length_le (by rw [hc]; exact Nat.le_add_left _ _), List.nil_append, hc, Nat.add_sub_cancel]
    exact h1
theorem Reps.c2 {α : Type} {R : α → List Value → Prop} {ps : List α} {cs : List Value} {p : α} {va vb : Value} (hp : R p [va, vb]) (h : Reps R 2 ps cs) : Reps R 2 (p :: ps) (va :: vb :: cs) := Reps.front hp rfl h rfl
theorem Reps.c3 {α : Type} {R : α → List Value → Prop} {ps : List α} {cs : List Value} {p : α} {va vb vc : Value} (hp : R p [va, vb, vc]) (h : Reps R 3 ps cs) : Reps R 3 (p :: ps) (va :: vb :: vc :: cs) := Reps.front hp rfl h rfl
theorem Reps.c4 {α : Type} {R : α → List Value → Prop} {ps : List α} {cs : List Value} {p : α} {va vb vc vd : Value} (hp : R p [va, vb, vc, vd]) (h : Reps R 4 ps cs) : Reps R 4 (p :: ps) (va :: vb :: vc :: vd :: cs) := Reps.front hp rfl h rfl
theorem Reps.c5 {α : Type} {R : α → List Value → Prop} {ps : List α} {cs : List Value} {p : α} {va vb vc vd ve : Value} (hp : R p [va, vb, vc, vd, ve]) (h : Reps R 5 ps cs) : Reps R 5 (p :: ps) (va :: vb :: vc :: vd :: ve :: cs) := Reps.front hp rfl h rfl
theorem Reps.c6 {α : Type} {R : α → List Value → Prop} {ps : List α} {cs : List Value} {p : α} {va vb vc vd ve vf : Value} (hp : R p [va, vb, vc, vd, ve, vf]) (h : Reps R 6 ps cs) : Reps R 6 (p :: ps) (va :: vb :: vc :: vd :: ve :: vf :: cs) := Reps.front hp rfl h rfl
theorem Reps.c7 {α : Type} {R : α → List Value → Prop} {ps : List α} {cs : List Value} {p : α} {va vb vc vd ve vf vg : Value} (hp : R p [va, vb, vc, vd, ve, vf, vg]) (h : Reps R 7 ps cs) : Reps R 7 (p :: ps) (va :: vb :: vc :: vd :: ve :: vf :: vg :: cs) := Reps.front hp rfl h rfl
theorem Reps.c8 {α : Type} {R : α → List Value → Prop} {ps : List α} {cs : List Value} {p : α} {va vb vc vd ve vf vg vh : Value} (hp : R p [va, vb, vc, vd, ve, vf, vg, vh]) (h : Reps R 8 ps cs) : Reps R 8 (p :: ps) (va :: vb :: vc :: vd :: ve :: vf :: vg :: vh :: cs) := Reps.front hp rfl h rfl
theorem Reps.c9 {α : Type} {R : α → List Value → Prop} {ps : List α} {cs : List Value} {p : α} {va vb vc vd ve vf vg vh vi : Value} (hp : R p [va, vb, vc, vd, ve, vf, vg, vh, vi]) (h : Reps R 9 ps cs) : Reps R 9 (p :: ps) (va :: vb :: vc :: vd :: ve :: vf :: vg :: vh :: vi :: cs) := Reps.front hp rfl h rfl
end Go.Proofs.YtllloedhlcdbjaaW.PrintWords
end
section
namespace Go.Proofs.YtllloedhlcdbjaaW.PrintLast
section
variable {P : Program} {ops : Array Oper} {Q : Exit → Act → World → Prop} {md : Region.Mode} {T : Bool × List (List Nat × List Nat)} {B : List Nat} {O : List Nat} {b : Nat → Bool} {i j n : Nat}
def Closed (T : List (List Nat × List Nat)) (O : List Nat) (b : Nat → Bool) : Prop := ∀ d r, T[d]? = some r → O.contains d = true → b d = true → ∀ n ∈ r.1, O.contains n = true → b n = true
theorem put_comm {a : Act} {s t : Tmp} {u v : Value} (h : s ≠ t) : (a.put (some s) u).put (some t) v = (a.put (some t) v).put (some s) u := by
  simp only [Act.put]
  rw [Array.setIfInBounds_comm _ _ h]
end
end Go.Proofs.YtllloedhlcdbjaaW.PrintLast
end
section
namespace Go.Proofs.YtllloedhlcdbjaaW.PrintMore
open Go.RowKit Go.Proofs.YtllloedhlcdbjaaW.PrintWords
open Go.Proofs.YtllloedhlcdbjaaW.PrintWords.Kd
open Go.Proofs.YtllloedhlcdbjaaW.PrintWords.Kd
theorem max2_int (k k' : IntKind) (x y : Int) : Builtin.max2 (.int k x) (.int k' y) = pure (.int k (if x < y then y else x)) := by simp only [Builtin.max2, gt_iff_lt]
theorem min2_int (k k' : IntKind) (x y : Int) : Builtin.min2 (.int k x) (.int k' y) = pure (.int k (if y < x then y else x)) := by simp only [Builtin.min2]
theorem max_two (ats : Array TypeId) (ty : TypeId) (a b : Value) : Builtin.max_ ats ty #[a, b] = (Builtin.max2 a b >>= fun s => pure s) := by simp only [Builtin.max_, List.foldlM_cons, List.foldlM_nil]
theorem min_two (ats : Array TypeId) (ty : TypeId) (a b : Value) : Builtin.min_ ats ty #[a, b] = (Builtin.min2 a b >>= fun s => pure s) := by simp only [Builtin.min_, List.foldlM_cons, List.foldlM_nil]
theorem max_three (ats : Array TypeId) (ty : TypeId) (a b c : Value) : Builtin.max_ ats ty #[a, b, c] = (Builtin.max2 a b >>= fun s => Builtin.max2 s c >>= fun s => pure s) := by simp only [Builtin.max_, List.foldlM_cons, List.foldlM_nil]
theorem min_three (ats : Array TypeId) (ty : TypeId) (a b c : Value) : Builtin.min_ ats ty #[a, b, c] = (Builtin.min2 a b >>= fun s => Builtin.min2 s c >>= fun s => pure s) := by simp only [Builtin.min_, List.foldlM_cons, List.foldlM_nil]
theorem max_four (ats : Array TypeId) (ty : TypeId) (a b c d : Value) : Builtin.max_ ats ty #[a, b, c, d] = (Builtin.max2 a b >>= fun s => Builtin.max2 s c >>= fun s => Builtin.max2 s d >>= fun s => pure s) := by simp only [Builtin.max_, List.foldlM_cons, List.foldlM_nil]
theorem min_four (ats : Array TypeId) (ty : TypeId) (a b c d : Value) : Builtin.min_ ats ty #[a, b, c, d] = (Builtin.min2 a b >>= fun s => Builtin.min2 s c >>= fun s => Builtin.min2 s d >>= fun s => pure s) := by simp only [Builtin.min_, List.foldlM_cons, List.foldlM_nil]
end Go.Proofs.YtllloedhlcdbjaaW.PrintMore
open Go.RowKit
open Go.RowKit
end
section
namespace Go.Proofs.Ytllloedhlcdbjaa
set_option linter.unusedVariables false
set_option linter.unusedSimpArgs false
open Go.RowKit Kit Go.Proofs.YtllloedhlcdbjaaW.PrintWords
theorem ps_save (s : List Int) (hs : s.length = 12) (m : Md) (A : Option Addr) (c : Nat) (l : List Int) (hn : l.length ≤ 1000000) {w W : World} (hC : (Kd.int .i64).C w A l.length l) (hb : Below w.heap.size w W) (S : List Int) (hS : saveL m s l = S) :
    Calls Try.prog 20 #[.agg (u8s s).toArray, m.v, .slice A l.length c] W fun e w' => e = .returned (.agg (u8s S).toArray) ∧ Below W.heap.size W w' := by
  have h := save_calls s hs m A c l hn W (Kd.C_below hC hb); rw [hS] at h; exact h
theorem ps_rest (s : List Int) (hs : s.length = 12) (m : Md) (A : Option Addr) (c : Nat) (l : List Int) (hn : l.length ≤ 1000000) {w W : World} (hC : (Kd.int .i64).C w A l.length l) (hb : Below w.heap.size w W) (S : Md) (hS : restL s m l = S) :
    Calls Try.prog 22 #[.agg (u8s s).toArray, m.v, .slice A l.length c] W fun e w' => e = .returned S.v ∧ Below W.heap.size W w' := by
  have h := restore_calls s hs m A c l hn W (Kd.C_below hC hb); rw [hS] at h; exact h
attribute [local irreducible] wpList Calls wpQuiet
end Go.Proofs.Ytllloedhlcdbjaa
end
section
namespace Go.Proofs.Ytllloedhlcdbjaa
open Go.ChangeShapes Go.WideShapes Go.ChangeAt Go.RowKit Kit Go.Proofs.YtllloedhlcdbjaaW.PrintWords
set_option linter.unusedVariables false
set_option linter.unusedSimpArgs false
set_option maxRecDepth 100000
theorem pairsL_append (a b : List Int) : pairsL (a ++ b) = pairsL a ++ pairsL b := List.filterMap_append
theorem saveL_append (m : Md) (s a b : List Int) : saveL m (saveL m s a) b = saveL m s (a ++ b) := by
  unfold saveL
  rw [pairsL_append, List.foldl_append]
theorem restL_append (s : List Int) (m : Md) (a b : List Int) : restL s (restL s m a) b = restL s m (a ++ b) := by
  unfold restL
  rw [pairsL_append, List.foldl_append]
namespace Kit
section
variable {P : Program}
def fGrown (B : Nat) (T : TypeId) (xs : List Value) : Fact := fun v w => ∃ g cap cur, v = .slice (some ⟨g, 0, none⟩) xs.length cap ∧ B ≤ g ∧ w.heap[g]? = some (.cells cur T (0, 0)) ∧ xs.length ≤ cap ∧ cap ≤ maxLen ∧ cur.size = cap ∧ cur.toList.take xs.length = xs
theorem Stays.fGrown (B : Nat) (T : TypeId) (xs : List Value) : Stays (fGrown B T xs) := fun v w w' h hb => by
  obtain ⟨g, cap, cur, h1, h2, h3, h4⟩ := h
  exact ⟨g, cap, cur, h1, h2, (hb.block g (Array.getElem?_eq_some_iff.1 h3).1).trans h3, h4⟩
theorem fGrown.own {B : Nat} {T : TypeId} {xs : List Value} {v : Value} {w : World} (h : fGrown B T xs v w) : w.ownsRow B T 1 v xs.length xs := by
  obtain ⟨g, cap, cur, h1, h2, h3, h4, h5, h6, h7⟩ := h
  exact ⟨by omega, .inr ⟨g, cap, cur, h1, h2, h3, h4, h5, by omega, by rw [Nat.mul_one]; exact h7⟩⟩
theorem fGrown.of_own {B B' : Nat} {T : TypeId} {n : Nat} {xs : List Value} {v : Value} {w : World} (h : w.ownsRow B' T 1 v n xs) (hB : B ≤ B') (hv : v ≠ .slice none 0 0) : fGrown B T xs v w := by
  obtain ⟨h0, h⟩ := h
  have hn : xs.length = n := by omega
  subst hn
  rcases h with ⟨h, _⟩ | ⟨g, cap, cur, h1, h2, h3, h4, h5, h6, h7⟩
  · exact absurd h hv
  · exact ⟨g, cap, cur, h1, by omega, h3, h4, h5, by omega, by rw [Nat.mul_one] at h7; exact h7⟩
theorem addr_add (b o k : Nat) : (⟨b, o, none⟩ : Addr).add k = ⟨b, o + k, none⟩ := by unfold Addr.add; split <;> simp_all
theorem run_append_empty {t ty e : TypeId} {i : TypeInfo} {z : Value} (ht : P.underlying t = some (.slice e)) (hi : P.info? e = some i) (hz : i.zero = some z) (hs : i.size = 1) (hb : i.bytes = 8) (hzs : z.cells.size = 1)
    {w : World} {b B : Nat} (hg : w.heap[b]? = some (.cells #[] e (0, 0))) (hB : B ≤ b) {p : Option Addr} {m c : Nat} {news : List Value} (hl : news.length = m) (hr : Reads w p news) (h1 : ∀ u ∈ news, u.oneCell' = true) (h63 : m ≤ 1000000) :
    ∃ v' w', (Builtin.append_ #[t, t] ty #[.slice (some ⟨b, 0, none⟩) 0 0, .slice p m c]).run P w = .ok v' w' ∧ fGrown B e news v' w' ∧ Below w.heap.size w w' := by
  have hlt : b < w.heap.size := (Array.getElem?_eq_some_iff.1 hg).1
  cases news with
  | nil =>
    simp at hl
    subst hl
    refine ⟨.slice (some ⟨b, 0, none⟩) 0 0, w, ?_, ⟨b, 0, #[], rfl, hB, hg, Nat.le_refl _, Nat.zero_le _, rfl, rfl⟩, Below.refl _ _⟩
    cases p with
    | none => simp [Builtin.append_, run_underlying ht, sizeOf, typeInfo, hi, Builtin.lenOf, Builtin.firstCells, storeCells]
    | some a => exact run_append_room_cells (P := P) w t ty e i ht hi b 0 0 0 a 0 c [] (by simp) (fun j u hj => by simp at hj) (fun u hu => by cases hu) (Nat.le_refl _) (fun j hj => by simp at hj) (fun j hj => by simp at hj)
  | cons x xs =>
    obtain ⟨b2, o2, rfl, _⟩ := hr 0 x rfl
    have hcells : ∀ j u, (x :: xs)[j]? = some u → w.cell? ((⟨b2, o2, none⟩ : Addr).add j) = some u := by
      intro j u hj
      obtain ⟨b', o', he, hc⟩ := hr j u hj
      cases he
      rw [addr_add]
      exact hc
    have hm : 0 < m := by rw [← hl]; simp
    obtain ⟨v', w', hrun, hown, hgr⟩ := run_append_arg_grows (P := P) (w := w) t ty e i z 1 8 ht hi hz hs hb hzs (by decide) ⟨b, 0, none⟩ 0 0 [] rfl (fun j u hj => by simp at hj) ⟨b2, o2, none⟩ m c (x :: xs) (by omega) hcells (by omega) (by simp only [maxLen]; omega) (by omega)
    rw [List.nil_append] at hown
    refine ⟨v', w', hrun, fGrown.of_own hown (by omega) (fun e => ?_), (Below.refl _ w).grown hgr (Nat.le_refl _) (fun k hk => by cases hk)⟩
    rcases hown.2 with ⟨_, h⟩ | ⟨g, cap, cur, h, _⟩
    · omega
    · rw [e] at h; cases h
theorem run_append_more {t ty e : TypeId} {i : TypeInfo} {z : Value} (ht : P.underlying t = some (.slice e)) (hi : P.info? e = some i) (hz : i.zero = some z) (hs : i.size = 1) (hb : i.bytes = 8) (hzs : z.cells.size = 1)
    {w : World} {B : Nat} {v : Value} {olds : List Value} (hM : fGrown B e olds v w) (hB : B ≤ w.heap.size) {p : Option Addr} {m c : Nat} {news : List Value} (hl : news.length = m) (hr : Reads w p news) (h1 : ∀ u ∈ news, u.oneCell' = true) (h63 : olds.length + m ≤ 1000000) :
    ∃ v' w', (Builtin.append_ #[t, t] ty #[v, .slice p m c]).run P w = .ok v' w' ∧ fGrown B e (olds ++ news) v' w' ∧ w.grownBy w' v.ownBlock := by
  cases p with
  | none =>
    have : news = [] := by
      cases news with
      | nil => rfl
      | cons x l => obtain ⟨b, o, h, _⟩ := hr 0 x rfl; cases h
    subst this
    simp at hl
    subst hl
    refine ⟨v, w, ?_, by rw [List.append_nil]; exact hM, World.grownBy.refl _ _⟩
    obtain ⟨g, cap, cur, rfl, h2, h3, h4, h5, h6, h7⟩ := hM
    simp [Builtin.append_, run_underlying ht, sizeOf, typeInfo, hi, Builtin.lenOf, h4, Builtin.firstCells, storeCells]
  | some a =>
    have hcells : ∀ j u, news[j]? = some u → w.cell? (a.add j) = some u := by
      intro j u hj
      obtain ⟨b, o, h, hc⟩ := hr j u hj
      cases h
      rw [addr_add]
      exact hc
    obtain ⟨v', w', hap, hown', hgr, hnil⟩ := run_append_own (P := P) (w := w) B t ty e i z 1 8 ht hi hz hs hb hzs Nat.one_pos v olds.length olds hM.own a m c news (by omega) hcells h1 (by simp only [maxLen]; omega) (by omega) hB
    refine ⟨v', w', hap, fGrown.of_own hown' (Nat.le_refl _) (fun e => ?_), hgr⟩
    have h2 := (hnil.1 e).1
    obtain ⟨g, cap, cur, h3, _⟩ := hM
    rw [h3] at h2
    cases h2
theorem Mine.grownB {W0 w w1 : World} {bs : Res} {row : Option Nat} {B : Nat} (h : Mine W0 w bs) (hg : w.grownBy w1 row) (hlt : ∀ q ∈ bs, q.1 < B) (hW : W0.heap.size ≤ B) (hb : ∀ k, row = some k → B ≤ k) : Mine W0 w1 bs :=
  ⟨h.below.grown hg h.below.size (fun k hk => Nat.le_trans hW (hb k hk)), h.nodup, fun p hp => by
    obtain ⟨h1, o, h2, h3⟩ := h.held p hp
    exact ⟨h1, o, (hg.block _ (h.lt hp) (fun e => by have h4 := hlt p hp; have h5 := hb p.1 e.symm; omega)).trans h2, h3⟩⟩
theorem fGrown.block {B : Nat} {T : TypeId} {xs : List Value} {v : Value} {w : World} (h : fGrown B T xs v w) : ∀ k, v.ownBlock = some k → B ≤ k := by
  intro k hk
  obtain ⟨g, cap, cur, rfl, h2, _⟩ := h
  cases hk
  exact h2
theorem take_C {w : World} {g : Nat} {cur : List Value} {xs : List Int} (h : w.heap[g]? = some (.cells cur.toArray 3 (0, 0))) (ht : cur.take xs.length = xs.map (Value.int .i64)) (hm : xs.length ≤ 1000000) : (Kd.int .i64).C w (some ⟨g, 0, none⟩) xs.length xs := by
  refine Kd.C_of_reads (d := (0 : Int)) ⟨rfl, by omega, fun h0 => ⟨⟨g, 0, none⟩, rfl, fun i hi => ?_⟩⟩
  rw [addr_add]
  have h2 : (cur.take xs.length)[i]? = some (.int .i64 (xs.getD i 0)) := by
    rw [ht]
    simp [hi, List.getD]
  rw [List.getElem?_take, if_pos hi] at h2
  simp [World.cell?, h, h2]
theorem ints_one (l : List Int) : ∀ u ∈ l.map (Value.int .i64), u.oneCell' = true := by
  intro u hu
  obtain ⟨c, _, rfl⟩ := List.mem_map.1 hu
  rfl
end
end Kit
theorem info_i64 : (Try.prog.info? 3).map (fun i => (i.zero, i.size, i.bytes)) = some (some (.int .i64 0), 1, 8) := by kernel_rfl
section
variable {H : Type} {enc : TypeId × Value → H} {W : World} {v : Value} {d : DataW H} {p : List MemPlace} {r : Reach} {b0 : Nat}
theorem ints_cells {fuel : Nat} {cs : List Value} {x : DataW H × List MemPlace} (hf : DataW.trod enc Try.prog W 0 (fun _ => true) true fuel 28 cs = some x) : ∃ (A : Option Addr) (l : List Int) (c : Nat), cs = [.slice A l.length c] ∧ (Kd.int .i64).C W A l.length l := by
  rcases open_ints Try.underlying28 Try.underlying3 cellsOne_int hf with ⟨hcs, hx⟩ | ⟨a, len', cap', zs, hcs, _, hl, hm, hz, hx, hcell, hwz⟩
  · exact ⟨none, [], 0, hcs, ⟨rfl, by simp, fun h => by simp at h⟩⟩
  · simp only [if_true] at hz
    have hlen : (zs.take len').length = len' := by rw [List.length_take]; omega
    refine ⟨some a, zs.take len', cap', by rw [hlen]; exact hcs, ?_⟩
    refine Kd.C_of_reads (d := (0 : Int)) ⟨rfl, by rw [hlen]; unfold maxLen at hm; omega, fun _ => ⟨a, rfl, fun j hj => ?_⟩⟩
    rw [hlen] at hj
    have hj2 : j < zs.length := by omega
    rw [hcell j hj2]
    simp [List.getD, hj, hj2]
theorem open_ints2 (hv : Value.okWide Try.prog W r b0 50 v) (h : DataW.Trod enc Try.prog W 0 (fun _ => true) true 50 v d p) : ∃ (A : Option Addr) (a : List Int) (cA : Nat) (B : Option Addr) (b : List Int) (cB : Nat), v = .agg #[.slice A a.length cA, .slice B b.length cB] ∧ (Kd.int .i64).C W A a.length a ∧ (Kd.int .i64).C W B b.length b := by
  obtain ⟨cs, rfl, hsz⟩ := okWide_array Try.underlying50 hv
  have hc0 : Try.prog.cellsOf 50 = 2 := by kernel_rfl
  have hc1 : Try.prog.cellsOf 28 = 1 := by kernel_rfl
  rw [hc0] at hsz
  obtain ⟨fuel, hf⟩ := h
  obtain ⟨xs, n, _, _, _, hlen, hx⟩ := DataW.trod_array Try.underlying50 hf
  rw [hc1] at hx
  have e0 := hx 0 (by omega)
  have e1 := hx 1 (by omega)
  have x0 : xs[0]? = some xs[0] := by simp [hlen]
  have x1 : xs[1]? = some xs[1] := by simp [hlen]
  rw [x0] at e0
  rw [x1] at e1
  obtain ⟨A, a, cA, h1, h2⟩ := ints_cells e0
  obtain ⟨B, b, cB, h3, h4⟩ := ints_cells e1
  refine ⟨A, a, cA, B, b, cB, ?_, h2, h4⟩
  have e : (Value.agg cs).cells.toList = cs.toList := rfl
  have hcl2 : cs.toList.length = 2 := by simpa using hsz
  rw [e] at h1 h3
  match hq : cs.toList, hcl2 with
  | [y0, y1], _ =>
    rw [hq] at h1 h3
    simp at h1 h3
    subst h1 h3
    congr 1
    apply Array.ext'
    exact hq
end
end Go.Proofs.Ytllloedhlcdbjaa
end
section
namespace Go.Proofs.Ytllloedhlcdbjaa.Kit
set_option linter.unusedVariables false
set_option linter.unusedSimpArgs false
open Go Go.RowKit
variable {P : Program} {w : World}
def Marked (w : World) (B : Nat) (e : TypeId) (v : Value) (n : Nat) (xs : List Value) : Prop :=
  ∃ g cap cur fz, v = .slice (some ⟨g, 0, none⟩) n cap ∧ B ≤ g ∧ w.heap[g]? = some (.cells cur e fz) ∧ cur.size = cap ∧ cap ≤ fz.1 ∧ n ≤ cap ∧ cur.toList.take n = xs
theorem Marked.len {B : Nat} {e : TypeId} {v : Value} {n : Nat} {xs : List Value} (h : Marked w B e v n xs) : xs.length = n := by
  obtain ⟨g, cap, cur, fz, _, _, _, hc, _, hn, rfl⟩ := h
  rw [List.length_take, Array.length_toList]
  omega
end Go.Proofs.Ytllloedhlcdbjaa.Kit
end
section
namespace Go.Proofs.Ytllloedhlcdbjaa.Kit
set_option linter.unusedVariables false
set_option linter.unusedSimpArgs false
open Go Go.RowKit
variable {P : Program} {w : World}
def Row (w : World) (g n cap : Nat) (e : TypeId) (l : List UInt8) : Prop :=
  ∃ cur fz, w.heap[g]? = some (.cells cur e fz) ∧ cur.size = cap ∧ cap ≤ fz.1 ∧ n ≤ cap ∧ cur.toList.take n = l.map byV
theorem Row.len {g n cap : Nat} {e : TypeId} {l : List UInt8} (h : Row w g n cap e l) : l.length = n := by
  obtain ⟨cur, fz, _, hc, _, hn, ht⟩ := h
  have := congrArg List.length ht
  rw [List.length_take, Array.length_toList, List.length_map] at this
  omega
theorem Row.lt {g n cap : Nat} {e : TypeId} {l : List UInt8} (h : Row w g n cap e l) : g < w.heap.size := by
  obtain ⟨cur, fz, hg, _⟩ := h
  exact (Array.getElem?_eq_some_iff.1 hg).1
theorem Row.reads {g n cap : Nat} {e : TypeId} {l : List UInt8} (h : Row w g n cap e l) : Reads w (some ⟨g, 0, none⟩) (l.map byV) := by
  obtain ⟨cur, fz, hg, _, _, _, ht⟩ := h
  exact Reads.row hg ht
theorem Row.cell {g n cap : Nat} {e : TypeId} {l : List UInt8} (h : Row w g n cap e l) {i : Nat} (hi : i < n) : w.cell? ⟨g, i, none⟩ = some (.int .u8 ((l[i]?.getD 0).toNat : Int)) := by
  have hr := h.reads i (byV (l[i]?.getD 0)) (by rw [List.getElem?_map, List.getElem?_eq_getElem (by rw [h.len]; exact hi)]; rfl)
  obtain ⟨b, o, he, hc⟩ := hr
  cases he
  rw [Nat.zero_add] at hc
  exact hc
theorem Row.set {g n cap : Nat} {e : TypeId} {l : List UInt8} (h : Row w g n cap e l) {i : Nat} (hi : i < n) (c : UInt8) : Row (w.setCell ⟨g, i, none⟩ (.int .u8 (c.toNat : Int))) g n cap e (l.set i c) := by
  obtain ⟨cur, fz, hg, hc, hf, hn, ht⟩ := h
  refine ⟨cur.setIfInBounds i (.int .u8 (c.toNat : Int)), fz, ?_, by simpa using hc, hf, hn, ?_⟩
  · rw [setCell_eq_setRow w g i cur e fz _ hg]
    exact setRow_heap w g _ _ e fz hg
  · rw [Array.toList_setIfInBounds, List.take_set, ht, List.map_set]
    rfl
theorem Row.below {w' : World} {g n cap : Nat} {e : TypeId} {l : List UInt8} (h : Row w g n cap e l) (hb : Below w.heap.size w w') : Row w' g n cap e l := by
  have hl := h.lt
  obtain ⟨cur, fz, hg, hc, hf, hn, ht⟩ := h
  exact ⟨cur, fz, (hb.block g hl).trans hg, hc, hf, hn, ht⟩
theorem step_append_as {ops : Array Oper} {Q : Exit → Act → World → Prop} {a : Act} {rest : List Oper} {o : Oper} {s x : Operand} {t : TypeId} {v y r : Value} {w' : World} (hrun : (Builtin.append_ #[t, t] o.type #[v, y]).run P w = .ok r w') (hop : o.op = .call { callee := .builtin .append, args := #[s, x], argTypes := #[t, t] }) (hg : o.guard = none)
    (hs : a.eval s = v) (hy : a.eval x = y) (h : wpList P ops Q rest (a.put o.dst r) w') : wpList P ops Q (o :: rest) a w := by
  refine wpList_plain hg fun K hK' => ?_
  unfold Oper.wp
  simp [execOp, hop, resolve, invoke, builtin, hs, hy, hrun, Result.andThen]
  exact hK' _ _ h
end Go.Proofs.Ytllloedhlcdbjaa.Kit
end
section
namespace Go.Proofs.Ytllloedhlcdbjaa
set_option linter.unusedVariables false
set_option linter.unusedSimpArgs false
open Go.RowKit Kit Go.Proofs.YtllloedhlcdbjaaW.PrintWords
def fEmp (B : Nat) : Fact := fun v w => ∃ b, v = .slice (some ⟨b, 0, none⟩) 0 0 ∧ B ≤ b ∧ w.heap[b]? = some (.cells #[] 3 (0, 0))
theorem Stays.fEmp (B : Nat) : Stays (fEmp B) := fun v w w' h hb => by
  obtain ⟨b, h1, h2, h3⟩ := h
  exact ⟨b, h1, h2, (hb.block b (Array.getElem?_eq_some_iff.1 h3).1).trans h3⟩
theorem step_as {P : Program} {ops : Array Oper} {A : Act} {w w' : World} {o : Oper} {v : Value} {K : Value → World → Prop} (hg : Region.wanted o (yielded ops A.tmps) = true) (h : (execOp A.eval o).run P w = .ok (.value v) w') (hk : K v w') : StepOk P ops o A w K := by
  unfold StepOk
  rw [if_pos hg, h]
  exact hk
attribute [local irreducible] wpList Calls wpQuiet
set_option maxRecDepth 100000 in
set_option maxHeartbeats 8000000 in
theorem saveParts_long1 (s : List Int) (hs : s.length = 12) (m : Md) (A : Option Addr) (cA : Nat) (a : List Int) (B : Option Addr) (cB : Nat) (b : List Int) (w : World) (ha : 20 < a.length) :
    Calls Try.prog 11 #[.agg (u8s s).toArray, m.v, .agg #[.slice A a.length cA, .slice B b.length cB]] w fun e w' => e = .returned (.bool true) ∧ Below w.heap.size w w' := by
  have HO := Mine.start w
  have HS := Lib.hid hs
  clear hs
  have ha1 : decide ((a.length : Int) > 20) = true := decide_eq_true (by omega)
  have ha2 : decide (20 < (a.length : Int)) = true := ha1
  have ha3 : decide (20 < a.length) = true := decide_eq_true ha
  clear ha
  go_enter Try.func11, Try.ntmps11
  go_wp2_with (first
      | (go_at_call 19; refine (awake07_calls _).mono ?_; rintro eN wN ⟨rfl, hbN⟩; have HON := HO.call hbN; clear HO hbN; have HO := HON; clear HON)
      | ((with_reducible refine gate ?_); (first
      | ((with_reducible refine gateAt (N := 4) rfl ?_); refine own_box (T := 23) HO rfl rfl rfl ?_; clear HO; intro gM wN hggM HO; (simp only [List.nil_append, List.cons_append] at HO); (try simp only [Act.put, List.setIfInBounds_toArray, List.set_cons_zero, List.set_cons_succ]))
      | ((with_reducible refine gateAt (N := 5) rfl ?_); refine own_box (T := 50) HO rfl rfl rfl ?_; clear HO; intro gB wN hggB HO; (simp only [List.nil_append, List.cons_append] at HO); (try simp only [Act.put, List.setIfInBounds_toArray, List.set_cons_zero, List.set_cons_succ]))
      | ((with_reducible refine gateAt (N := 3) rfl ?_); refine own_box (T := 38) HO rfl rfl (cs := u8s s) rfl ?_; clear HO; intro gS wN hgN HO; (simp only [List.nil_append, List.cons_append] at HO); (try simp only [Act.put, List.setIfInBounds_toArray, List.set_cons_zero, List.set_cons_succ]))
      | ((refine own_box HO rfl rfl rfl ?_); clear HO; intro gN wN hgN HO; (simp only [List.nil_append, List.cons_append] at HO); (try simp only [Act.put, List.setIfInBounds_toArray, List.set_cons_zero, List.set_cons_succ]))
      | ((refine own_load1 (T := 28) HO rfl rfl rfl (by first | exact .head _ | exact .tail _ (.head _) | exact .tail _ (.tail _ (.head _)) | exact .tail _ (.tail _ (.tail _ (.head _))) | exact .tail _ (.tail _ (.tail _ (.tail _ (.head _)))) | exact .tail _ (.tail _ (.tail _ (.tail _ (.tail _ (.head _)))))) Try.isAgg28 rfl ?_); (try simp only [Act.put, List.setIfInBounds_toArray, List.set_cons_zero, List.set_cons_succ]))
      | ((refine own_store (T := 28) HO rfl rfl rfl rfl (by first | exact .here | exact .there (.here) | exact .there (.there (.here)) | exact .there (.there (.there (.here))) | exact .there (.there (.there (.there (.here)))) | exact .there (.there (.there (.there (.there (.here)))))) Try.sizeOf28 (by repeat constructor) rfl ?_); clear HO; intro wN HO; (try simp only [Act.put, List.setIfInBounds_toArray, List.set_cons_zero, List.set_cons_succ])))))
  go_ret
  exact ⟨rfl, HO.below⟩
set_option maxRecDepth 100000 in
set_option maxHeartbeats 8000000 in
theorem saveParts_long2 (s : List Int) (hs : s.length = 12) (m : Md) (A : Option Addr) (cA : Nat) (a : List Int) (B : Option Addr) (cB : Nat) (b : List Int) (w : World) (ha : ¬ 20 < a.length) (hb : 20 < b.length) :
    Calls Try.prog 11 #[.agg (u8s s).toArray, m.v, .agg #[.slice A a.length cA, .slice B b.length cB]] w fun e w' => e = .returned (.bool true) ∧ Below w.heap.size w w' := by
  have HO := Mine.start w
  have HS := Lib.hid hs
  clear hs
  have ha1 : decide ((a.length : Int) > 20) = false := decide_eq_false (by omega)
  have ha2 : decide (20 < (a.length : Int)) = false := ha1
  have ha3 : decide (20 < a.length) = false := decide_eq_false ha
  have hb1 : decide ((b.length : Int) > 20) = true := decide_eq_true (by omega)
  have hb2 : decide (20 < (b.length : Int)) = true := hb1
  have hb3 : decide (20 < b.length) = true := decide_eq_true hb
  clear ha hb
  go_enter Try.func11, Try.ntmps11
  go_wp2_with (first
      | (go_at_call 19; refine (awake07_calls _).mono ?_; rintro eN wN ⟨rfl, hbN⟩; have HON := HO.call hbN; clear HO hbN; have HO := HON; clear HON)
      | ((with_reducible refine gate ?_); (first
      | ((with_reducible refine gateAt (N := 4) rfl ?_); refine own_box (T := 23) HO rfl rfl rfl ?_; clear HO; intro gM wN hggM HO; (simp only [List.nil_append, List.cons_append] at HO); (try simp only [Act.put, List.setIfInBounds_toArray, List.set_cons_zero, List.set_cons_succ]))
      | ((with_reducible refine gateAt (N := 5) rfl ?_); refine own_box (T := 50) HO rfl rfl rfl ?_; clear HO; intro gB wN hggB HO; (simp only [List.nil_append, List.cons_append] at HO); (try simp only [Act.put, List.setIfInBounds_toArray, List.set_cons_zero, List.set_cons_succ]))
      | ((with_reducible refine gateAt (N := 3) rfl ?_); refine own_box (T := 38) HO rfl rfl (cs := u8s s) rfl ?_; clear HO; intro gS wN hgN HO; (simp only [List.nil_append, List.cons_append] at HO); (try simp only [Act.put, List.setIfInBounds_toArray, List.set_cons_zero, List.set_cons_succ]))
      | ((refine own_box HO rfl rfl rfl ?_); clear HO; intro gN wN hgN HO; (simp only [List.nil_append, List.cons_append] at HO); (try simp only [Act.put, List.setIfInBounds_toArray, List.set_cons_zero, List.set_cons_succ]))
      | ((refine own_load1 (T := 28) HO rfl rfl rfl (by first | exact .head _ | exact .tail _ (.head _) | exact .tail _ (.tail _ (.head _)) | exact .tail _ (.tail _ (.tail _ (.head _))) | exact .tail _ (.tail _ (.tail _ (.tail _ (.head _)))) | exact .tail _ (.tail _ (.tail _ (.tail _ (.tail _ (.head _)))))) Try.isAgg28 rfl ?_); (try simp only [Act.put, List.setIfInBounds_toArray, List.set_cons_zero, List.set_cons_succ]))
      | ((refine own_store (T := 28) HO rfl rfl rfl rfl (by first | exact .here | exact .there (.here) | exact .there (.there (.here)) | exact .there (.there (.there (.here))) | exact .there (.there (.there (.there (.here)))) | exact .there (.there (.there (.there (.there (.here)))))) Try.sizeOf28 (by repeat constructor) rfl ?_); clear HO; intro wN HO; (try simp only [Act.put, List.setIfInBounds_toArray, List.set_cons_zero, List.set_cons_succ])))))
  go_ret
  exact ⟨rfl, HO.below⟩
set_option maxRecDepth 100000 in
set_option maxHeartbeats 8000000 in
theorem saveParts_short (s : List Int) (hs : s.length = 12) (m : Md) (A : Option Addr) (cA : Nat) (a : List Int) (B : Option Addr) (cB : Nat) (b : List Int) (w : World) (ha : ¬ 20 < a.length) (hb : ¬ 20 < b.length) (hCA : (Kd.int .i64).C w A a.length a) (hCB : (Kd.int .i64).C w B b.length b) :
    Calls Try.prog 11 #[.agg (u8s s).toArray, m.v, .agg #[.slice A a.length cA, .slice B b.length cB]] w fun e w' => e = .returned (.bool true) ∧ Below w.heap.size w w' := by
  have HO := Mine.start w
  have HS := Lib.hid hs
  clear hs
  have ha1 : decide ((a.length : Int) > 20) = false := decide_eq_false (by omega)
  have ha2 : decide (20 < (a.length : Int)) = false := ha1
  have ha3 : decide (20 < a.length) = false := decide_eq_false ha
  have hb1 : decide ((b.length : Int) > 20) = false := decide_eq_false (by omega)
  have hb2 : decide (20 < (b.length : Int)) = false := hb1
  have hb3 : decide (20 < b.length) = false := decide_eq_false hb
  have HLA : Hid (a.length ≤ 1000) := Lib.hid (by omega)
  have HLB : Hid (b.length ≤ 1000) := Lib.hid (by omega)
  have HCA := Lib.hid hCA
  have HCB := Lib.hid hCB
  obtain ⟨L, hL⟩ : ∃ L, a ++ b = L := ⟨_, rfl⟩
  have HLL : Hid (L.length ≤ 1000000) := Lib.hid (by rw [← hL, List.length_append]; omega)
  have h2 := saveL_append m s a b
  have h3 := restL_append s m a b
  rw [hL] at h2 h3
  have hP12 : (saveL m s a).length = 12 := (saveL_len m s a).trans HS.out
  have hS12 : (saveL m s L).length = 12 := (saveL_len m s L).trans HS.out
  obtain ⟨P, hP⟩ : ∃ P, saveL m s a = P := ⟨_, rfl⟩
  obtain ⟨S, hS⟩ : ∃ S, saveL m s L = S := ⟨_, rfl⟩
  obtain ⟨K1, hK1⟩ : ∃ K1, restL s m a = K1 := ⟨_, rfl⟩
  obtain ⟨K, hK⟩ : ∃ K, restL s m L = K := ⟨_, rfl⟩
  rw [hP, hS] at h2
  rw [hK1, hK] at h3
  rw [hP] at hP12
  rw [hS] at hS12
  have HP := Lib.hid hP
  have HSV := Lib.hid hS
  have HK1 := Lib.hid hK1
  have HK := Lib.hid hK
  have H2 := Lib.hid h2
  have H3 := Lib.hid h3
  have HP12 := Lib.hid hP12
  have HS12 := Lib.hid hS12
  have HL := Lib.hid hL
  have HE1 : Hid (∀ w, (Op.equal 39 (.agg (u8s S).toArray) (.agg (u8s S).toArray)).run Try.prog w = .ok true w) := Lib.hid fun w => (equal_saved S S hS12 hS12 w).trans (by rw [decide_eq_true rfl])
  have HE2 : Hid (∀ w, (Op.equal 23 K.v K.v).run Try.prog w = .ok true w) := Lib.hid fun w => (equal_modes K K w).trans (by rw [decide_eq_true rfl])
  clear ha hb hCA hCB hL h2 h3 hP hS hK1 hK hP12 hS12
  go_enter Try.func11, Try.ntmps11
  go_wp2_with (first
      | (go_at_call 19; refine (awake07_calls _).mono ?_; rintro eN wN ⟨rfl, hbN⟩; have HON := HO.call hbN; clear HO hbN; have HO := HON; clear HON)
      | ((with_reducible refine gate ?_); (first
      | ((with_reducible refine gateAt (N := 4) rfl ?_); refine own_box (T := 23) HO rfl rfl rfl ?_; clear HO; intro gM wN hggM HO; (simp only [List.nil_append, List.cons_append] at HO); (try simp only [Act.put, List.setIfInBounds_toArray, List.set_cons_zero, List.set_cons_succ]))
      | ((with_reducible refine gateAt (N := 5) rfl ?_); refine own_box (T := 50) HO rfl rfl rfl ?_; clear HO; intro gB wN hggB HO; (simp only [List.nil_append, List.cons_append] at HO); (try simp only [Act.put, List.setIfInBounds_toArray, List.set_cons_zero, List.set_cons_succ]))
      | ((with_reducible refine gateAt (N := 3) rfl ?_); refine own_box (T := 38) HO rfl rfl (cs := u8s s) rfl ?_; clear HO; intro gS wN hgN HO; (simp only [List.nil_append, List.cons_append] at HO); (try simp only [Act.put, List.setIfInBounds_toArray, List.set_cons_zero, List.set_cons_succ]))
      | ((refine own_box HO rfl rfl rfl ?_); clear HO; intro gN wN hgN HO; (simp only [List.nil_append, List.cons_append] at HO); (try simp only [Act.put, List.setIfInBounds_toArray, List.set_cons_zero, List.set_cons_succ]))
      | ((refine own_load1 (T := 28) HO rfl rfl rfl (by first | exact .head _ | exact .tail _ (.head _) | exact .tail _ (.tail _ (.head _)) | exact .tail _ (.tail _ (.tail _ (.head _))) | exact .tail _ (.tail _ (.tail _ (.tail _ (.head _)))) | exact .tail _ (.tail _ (.tail _ (.tail _ (.tail _ (.head _)))))) Try.isAgg28 rfl ?_); (try simp only [Act.put, List.setIfInBounds_toArray, List.set_cons_zero, List.set_cons_succ]))
      | ((refine own_store (T := 28) HO rfl rfl rfl rfl (by first | exact .here | exact .there (.here) | exact .there (.there (.here)) | exact .there (.there (.there (.here))) | exact .there (.there (.there (.there (.here)))) | exact .there (.there (.there (.there (.there (.here)))))) Try.sizeOf28 (by repeat constructor) rfl ?_); clear HO; intro wN HO; (try simp only [Act.put, List.setIfInBounds_toArray, List.set_cons_zero, List.set_cons_succ])))))
  have hlt : ∀ q ∈ [(gS, IsCells (u8s s) 38), (gM, IsCells [.bool m.cursor, .bool m.keypad, .bool m.back, .bool m.focus, .bool m.paste, .bool m.lock, .bool m.line, .int .i64 m.mouse, .int .i64 m.coding, .int .i64 m.other] 23), (gB, IsCells [.slice A a.length cA, .slice B b.length cB] 50)], q.1 < _ := fun q hq => HO.lt hq
  have hW0 := HO.below.size
  have HLt := Lib.hid hlt
  have HW0 := Lib.hid hW0
  clear hlt hW0
  refine region_law 6 [fEmp wN.heap.size, fIs (.pointer (some ⟨gB, 0, none⟩)), fIs (.slice A a.length cA), fGrown wN.heap.size 3 (a.map (Value.int .i64)), fIs (.pointer (some ⟨gB, 1, none⟩)), fIs (.slice B b.length cB)] HO (by kernel_rfl) (by kernel_rfl) (by decide) (by kernel_rfl)
    (stays_cons (Stays.fEmp _) (stays_cons (Stays.fIs _) (stays_cons (Stays.fIs _) (stays_cons (Stays.fGrown _ _ _) (stays_cons (Stays.fIs _) (stays_cons (Stays.fIs _) stays_nil)))))) ?_
  intro vals A hA
  simp [fillL, dstOf, List.range, List.range.loop, Act.put] at hA
  subst hA
  refine ⟨⟨?_, ?_, ?_, ?_, ?_, ?_, trivial⟩, ?_⟩
  all_goals intro W hd hM hb0
  case refine_1 =>
    skip
    exact st_new (ob := .cells #[] 3 (0, 0)) rfl (by simp only [execOp]; first | (go_simp; done) | (go_simp; rfl)) (fun h => ⟨_, rfl, hb0.size, h⟩)
  case refine_2 =>
    skip
    exact st_val rfl (by simp only [execOp]; first | (go_simp; done) | (go_simp; rfl)) rfl
  case refine_3 =>
    have v1 : vals 1 = .pointer (some ⟨gB, 0, none⟩) := hd 1 (by kernel_rfl)
    rw [v1]
    exact st_load1 hM rfl rfl rfl (.tail _ (.tail _ (.head _))) Try.isAgg28 rfl rfl
  case refine_4 =>
    have v2 : vals 2 = .slice A a.length cA := hd 2 (by kernel_rfl)
    rw [v2]
    obtain ⟨b0, e0, hge, hg0⟩ : fEmp wN.heap.size (vals 0) W := hd 0 (by kernel_rfl)
    rw [e0]
    obtain ⟨i0, hi, hz0, hz1, hz2⟩ := info_parts info_i64
    obtain ⟨v', w', hap, hG, hbl⟩ := run_append_empty (P := Try.prog) (ty := 28) Try.underlying28 hi hz0 hz1 hz2 rfl hg0 hge (p := A) (m := a.length) (c := cA) (news := a.map (Value.int .i64)) (List.length_map _) ((reads_ints HCA.out).below hM.below) (ints_one a) (by have := HLA.out; omega)
    refine step_as (v := v') (w' := w') rfl ?_ ⟨hbl, hG⟩
    simp only [execOp, resolve, invoke, builtin, Sem.run_bind, Sem.run_pure, Result.andThen_ok, List.map_toArray, List.map_cons, List.map_nil]
    exact congrArg (Result.andThen · _) hap
  case refine_5 =>
    skip
    exact st_val rfl (by simp only [execOp]; first | (go_simp; done) | (go_simp; rfl)) rfl
  case refine_6 =>
    have v4 : vals 4 = .pointer (some ⟨gB, 1, none⟩) := hd 4 (by kernel_rfl)
    rw [v4]
    exact st_load1 hM rfl rfl rfl (.tail _ (.tail _ (.head _))) Try.isAgg28 rfl rfl
  case refine_7 =>
    have v5 : vals 5 = .slice B b.length cB := hd 5 (by omega)
    rw [v5]
    simp only [List.drop_succ_cons, List.drop_zero]
    have h3 : fGrown wN.heap.size 3 (a.map (Value.int .i64)) (vals 3) W := hd 3 (by omega)
    obtain ⟨v3, e3⟩ : ∃ v3, v3 = vals 3 := ⟨_, rfl⟩
    rw [← e3] at h3 ⊢
    obtain ⟨i0, hi, hz0, hz1, hz2⟩ := info_parts info_i64
    obtain ⟨v', w', hap, hG, hgr⟩ := run_append_more (P := Try.prog) (ty := 28) Try.underlying28 hi hz0 hz1 hz2 rfl h3 hb0.size (p := B) (m := b.length) (c := cB) (news := b.map (Value.int .i64)) (List.length_map _) ((reads_ints HCB.out).below hM.below) (ints_one b) (by rw [List.length_map]; have := HLA.out; have := HLB.out; omega)
    have HO2 := hM.grownB hgr HLt.out HW0.out h3.block
    rw [← List.map_append, HL.out] at hG
    obtain ⟨gL, cap, cur, hv', hgL, hgc, hcs, hcm, hln, htk⟩ := hG
    rw [List.length_map] at hv' htk
    subst hv'
    have HO3 := HO2.take (p := IsCells cur.toList 3) HLt.out HW0.out hgL ⟨_, hgc, by simp [IsCells]⟩
    have HTK := Lib.hid htk
    clear HO2 hd hM h3 hgr hi hz0 hz1 hz2 hgc htk hcm hcs hln hgL hb0 HLt HW0
    have HO := HO3
    clear HO3
    simp only [List.nil_append, List.cons_append] at HO
    go_wp2_with (first
          | (go_at_call 20; refine ((ps_save s HS.out m (some ⟨gL, 0, none⟩) cap L HLL.out (take_C (HO.at (by first | exact .head _ | exact .tail _ (.head _) | exact .tail _ (.tail _ (.head _)) | exact .tail _ (.tail _ (.tail _ (.head _))) | exact .tail _ (.tail _ (.tail _ (.tail _ (.head _)))) | exact .tail _ (.tail _ (.tail _ (.tail _ (.tail _ (.head _))))) | exact .tail _ (.tail _ (.tail _ (.tail _ (.tail _ (.tail _ (.head _)))))) | exact .tail _ (.tail _ (.tail _ (.tail _ (.tail _ (.tail _ (.tail _ (.head _))))))) | exact .tail _ (.tail _ (.tail _ (.tail _ (.tail _ (.tail _ (.tail _ (.tail _ (.head _)))))))))) HTK.out HLL.out) (Below.refl _ _) S HSV.out)).mono ?_; rintro eN wN ⟨rfl, hbN⟩; have HON := HO.call hbN; clear HO hbN; have HO := HON; clear HON)
          | ((with_reducible refine gate ?_); (first
          | ((with_reducible refine gate ?_); refine step_append_as hap rfl rfl rfl rfl ?_)
          | ((with_reducible refine gateAt (N := 9) rfl ?_); refine own_alloc (T := 39) HO rfl rfl Try.zeroValue39 rfl ?_; clear HO; intro gO wN hggO HO; (simp only [List.nil_append, List.cons_append] at HO); (try simp only [Act.put, List.setIfInBounds_toArray, List.set_cons_zero, List.set_cons_succ]))
          | ((with_reducible refine gateAt (N := 11) rfl ?_); refine own_alloc (T := 23) HO rfl rfl Try.zeroValue23 rfl ?_; clear HO; intro gK wN hggK HO; (simp only [List.nil_append, List.cons_append] at HO); (try simp only [Act.put, List.setIfInBounds_toArray, List.set_cons_zero, List.set_cons_succ]))
          | ((with_reducible refine gate ?_); refine own_load (T := 38) (n := 12) (vs := u8s s) HO rfl rfl rfl (by first | exact .head _ | exact .tail _ (.head _) | exact .tail _ (.tail _ (.head _)) | exact .tail _ (.tail _ (.tail _ (.head _))) | exact .tail _ (.tail _ (.tail _ (.tail _ (.head _)))) | exact .tail _ (.tail _ (.tail _ (.tail _ (.tail _ (.head _))))) | exact .tail _ (.tail _ (.tail _ (.tail _ (.tail _ (.tail _ (.head _)))))) | exact .tail _ (.tail _ (.tail _ (.tail _ (.tail _ (.tail _ (.tail _ (.head _))))))) | exact .tail _ (.tail _ (.tail _ (.tail _ (.tail _ (.tail _ (.tail _ (.tail _ (.head _))))))))) Try.isAgg38 Try.sizeOf38 (slc12 HS.out) ?_; (try simp only [Act.put, List.setIfInBounds_toArray, List.set_cons_zero, List.set_cons_succ]))
          | ((with_reducible refine gate ?_); refine own_load (T := 39) (n := 12) (vs := u8s S) HO rfl rfl rfl (by first | exact .head _ | exact .tail _ (.head _) | exact .tail _ (.tail _ (.head _)) | exact .tail _ (.tail _ (.tail _ (.head _))) | exact .tail _ (.tail _ (.tail _ (.tail _ (.head _)))) | exact .tail _ (.tail _ (.tail _ (.tail _ (.tail _ (.head _))))) | exact .tail _ (.tail _ (.tail _ (.tail _ (.tail _ (.tail _ (.head _)))))) | exact .tail _ (.tail _ (.tail _ (.tail _ (.tail _ (.tail _ (.tail _ (.head _))))))) | exact .tail _ (.tail _ (.tail _ (.tail _ (.tail _ (.tail _ (.tail _ (.tail _ (.head _))))))))) Try.isAgg39 Try.sizeOf39 (slc12 HS12.out) ?_; (try simp only [Act.put, List.setIfInBounds_toArray, List.set_cons_zero, List.set_cons_succ]))
          | ((with_reducible refine gate ?_); refine own_store (T := 39) (vs := u8s S) HO rfl rfl rfl rfl (by first | exact .here | exact .there (.here) | exact .there (.there (.here)) | exact .there (.there (.there (.here))) | exact .there (.there (.there (.there (.here)))) | exact .there (.there (.there (.there (.there (.here))))) | exact .there (.there (.there (.there (.there (.there (.here)))))) | exact .there (.there (.there (.there (.there (.there (.there (.here))))))) | exact .there (.there (.there (.there (.there (.there (.there (.there (.here))))))))) (size12 HS12.out) (by exact PutAt.all _ _ (len12 HS12.out)) (one12 S) ?_; clear HO; intro wN HO; (try simp only [Act.put, List.setIfInBounds_toArray, List.set_cons_zero, List.set_cons_succ]))
          | ((refine own_box HO rfl rfl rfl ?_); clear HO; intro gN wN hgN HO; (simp only [List.nil_append, List.cons_append] at HO); (try simp only [Act.put, List.setIfInBounds_toArray, List.set_cons_zero, List.set_cons_succ]))
          | ((refine own_load (T := 23) HO rfl rfl rfl (by first | exact .head _ | exact .tail _ (.head _) | exact .tail _ (.tail _ (.head _)) | exact .tail _ (.tail _ (.tail _ (.head _))) | exact .tail _ (.tail _ (.tail _ (.tail _ (.head _)))) | exact .tail _ (.tail _ (.tail _ (.tail _ (.tail _ (.head _))))) | exact .tail _ (.tail _ (.tail _ (.tail _ (.tail _ (.tail _ (.head _)))))) | exact .tail _ (.tail _ (.tail _ (.tail _ (.tail _ (.tail _ (.tail _ (.head _))))))) | exact .tail _ (.tail _ (.tail _ (.tail _ (.tail _ (.tail _ (.tail _ (.tail _ (.head _))))))))) Try.isAgg23 Try.sizeOf23 (by repeat constructor) ?_); (try simp only [Act.put, List.setIfInBounds_toArray, List.set_cons_zero, List.set_cons_succ]))
          | ((refine own_load1 (T := 28) HO rfl rfl rfl (by first | exact .head _ | exact .tail _ (.head _) | exact .tail _ (.tail _ (.head _)) | exact .tail _ (.tail _ (.tail _ (.head _))) | exact .tail _ (.tail _ (.tail _ (.tail _ (.head _)))) | exact .tail _ (.tail _ (.tail _ (.tail _ (.tail _ (.head _))))) | exact .tail _ (.tail _ (.tail _ (.tail _ (.tail _ (.tail _ (.head _)))))) | exact .tail _ (.tail _ (.tail _ (.tail _ (.tail _ (.tail _ (.tail _ (.head _))))))) | exact .tail _ (.tail _ (.tail _ (.tail _ (.tail _ (.tail _ (.tail _ (.tail _ (.head _))))))))) Try.isAgg28 rfl ?_); (try simp only [Act.put, List.setIfInBounds_toArray, List.set_cons_zero, List.set_cons_succ]))
          | ((refine own_store (T := 23) HO rfl rfl rfl rfl (by first | exact .here | exact .there (.here) | exact .there (.there (.here)) | exact .there (.there (.there (.here))) | exact .there (.there (.there (.there (.here)))) | exact .there (.there (.there (.there (.there (.here))))) | exact .there (.there (.there (.there (.there (.there (.here)))))) | exact .there (.there (.there (.there (.there (.there (.there (.here))))))) | exact .there (.there (.there (.there (.there (.there (.there (.there (.here))))))))) Try.sizeOf23 (by repeat constructor) rfl ?_); clear HO; intro wN HO; (try simp only [Act.put, List.setIfInBounds_toArray, List.set_cons_zero, List.set_cons_succ]))
          | ((refine own_store (T := 28) HO rfl rfl rfl rfl (by first | exact .here | exact .there (.here) | exact .there (.there (.here)) | exact .there (.there (.there (.here))) | exact .there (.there (.there (.there (.here)))) | exact .there (.there (.there (.there (.there (.here))))) | exact .there (.there (.there (.there (.there (.there (.here)))))) | exact .there (.there (.there (.there (.there (.there (.there (.here))))))) | exact .there (.there (.there (.there (.there (.there (.there (.there (.here))))))))) Try.sizeOf28 (by repeat constructor) rfl ?_); clear HO; intro wN HO; (try simp only [Act.put, List.setIfInBounds_toArray, List.set_cons_zero, List.set_cons_succ])))))
    obtain ⟨w5, hw5⟩ : ∃ w5, wN = w5 := ⟨_, rfl⟩
    rw [hw5] at HO ⊢
    clear hw5
    have hlt : ∀ q ∈ [(gS, IsCells (u8s s) 38), (gM, IsCells [.bool m.cursor, .bool m.keypad, .bool m.back, .bool m.focus, .bool m.paste, .bool m.lock, .bool m.line, .int .i64 m.mouse, .int .i64 m.coding, .int .i64 m.other] 23), (gB, IsCells [.slice A a.length cA, .slice B b.length cB] 50), (gL, IsCells cur.toList 3), (gO, IsCells (u8s S) 39)], q.1 < _ := fun q hq => HO.lt hq
    have hW0 := HO.below.size
    have HLt := Lib.hid hlt
    have HW0 := Lib.hid hW0
    clear hlt hW0
    refine region_law 10 [fIs (.agg (u8s s).toArray), fIs (m.v), fIs (.pointer (some ⟨gB, 0, none⟩)), fIs (.slice A a.length cA), fIs (.agg (u8s P).toArray), fIs (m.v), fIs (.pointer (some ⟨gB, 1, none⟩)), fIs (.slice B b.length cB), fIs (.agg (u8s S).toArray), fVar w5.heap.size 39 [.int .u8 0, .int .u8 0, .int .u8 0, .int .u8 0, .int .u8 0, .int .u8 0, .int .u8 0, .int .u8 0, .int .u8 0, .int .u8 0, .int .u8 0, .int .u8 0]] HO (by kernel_rfl) (by kernel_rfl) (by decide) (by kernel_rfl)
      (stays_cons (Stays.fIs _) (stays_cons (Stays.fIs _) (stays_cons (Stays.fIs _) (stays_cons (Stays.fIs _) (stays_cons (Stays.fIs _) (stays_cons (Stays.fIs _) (stays_cons (Stays.fIs _) (stays_cons (Stays.fIs _) (stays_cons (Stays.fIs _) (stays_cons (Stays.fVar _ _ _) stays_nil)))))))))) ?_
    intro vals A hA
    simp [fillL, dstOf, List.range, List.range.loop, Act.put] at hA
    subst hA
    refine ⟨⟨?_, ?_, ?_, ?_, ?_, ?_, ?_, ?_, ?_, ?_, trivial⟩, ?_⟩
    all_goals intro W hd hM hb0
    case refine_1 =>
      skip
      exact st_load hM rfl rfl rfl (.head _) Try.isAgg38 Try.sizeOf38 (slc12 HS.out) rfl
    case refine_2 =>
      skip
      exact st_load hM rfl rfl rfl (.tail _ (.head _)) Try.isAgg23 Try.sizeOf23 (by repeat constructor) rfl
    case refine_3 =>
      skip
      exact st_val rfl (by simp only [execOp]; first | (go_simp; done) | (go_simp; rfl)) rfl
    case refine_4 =>
      have v2 : vals 2 = .pointer (some ⟨gB, 0, none⟩) := hd 2 (by kernel_rfl)
      rw [v2]
      exact st_load1 hM rfl rfl rfl (.tail _ (.tail _ (.head _))) Try.isAgg28 rfl rfl
    case refine_5 =>
      have v0 : vals 0 = .agg (u8s s).toArray := hd 0 (by kernel_rfl)
      have v1 : vals 1 = m.v := hd 1 (by kernel_rfl)
      have v3 : vals 3 = .slice A a.length cA := hd 3 (by kernel_rfl)
      rw [v0, v1, v3]
      have hcall := ps_save s HS.out m A cA a (by have := HLA.out; omega) HCA.out hM.below P HP.out
      change Calls Try.prog 20 #[.agg (u8s s).toArray, m.v, .slice A a.length cA] W _ at hcall
      exact st_call rfl (by simp only [execOp]; first | (go_simp; done) | (go_simp; rfl)) hcall (by rintro e w' ⟨rfl, hb⟩; exact ⟨_, rfl, hb, rfl⟩)
    case refine_6 =>
      skip
      exact st_load hM rfl rfl rfl (.tail _ (.head _)) Try.isAgg23 Try.sizeOf23 (by repeat constructor) rfl
    case refine_7 =>
      skip
      exact st_val rfl (by simp only [execOp]; first | (go_simp; done) | (go_simp; rfl)) rfl
    case refine_8 =>
      have v6 : vals 6 = .pointer (some ⟨gB, 1, none⟩) := hd 6 (by kernel_rfl)
      rw [v6]
      exact st_load1 hM rfl rfl rfl (.tail _ (.tail _ (.head _))) Try.isAgg28 rfl rfl
    case refine_9 =>
      have v4 : vals 4 = .agg (u8s P).toArray := hd 4 (by kernel_rfl)
      have v5 : vals 5 = m.v := hd 5 (by kernel_rfl)
      have v7 : vals 7 = .slice B b.length cB := hd 7 (by kernel_rfl)
      rw [v4, v5, v7]
      have hcall := ps_save P HP12.out m B cB b (by have := HLB.out; omega) HCB.out hM.below S H2.out
      change Calls Try.prog 20 #[.agg (u8s P).toArray, m.v, .slice B b.length cB] W _ at hcall
      exact st_call rfl (by simp only [execOp]; first | (go_simp; done) | (go_simp; rfl)) hcall (by rintro e w' ⟨rfl, hb⟩; exact ⟨_, rfl, hb, rfl⟩)
    case refine_10 =>
      skip
      exact st_new (ob := .cells #[.int .u8 0, .int .u8 0, .int .u8 0, .int .u8 0, .int .u8 0, .int .u8 0, .int .u8 0, .int .u8 0, .int .u8 0, .int .u8 0, .int .u8 0, .int .u8 0] 39 (0, 0)) rfl (by simp only [execOp]; first | (go_simp; done) | (go_simp; rfl)) (fun h => ⟨_, rfl, hb0.size, h⟩)
    case refine_11 =>
      have v8 : vals 8 = .agg (u8s S).toArray := hd 8 (by omega)
      rw [v8]
      simp only [List.drop_succ_cons, List.drop_zero]
      obtain ⟨gT, e9, hge, hgT⟩ : fVar w5.heap.size 39 _ (vals 9) W := hd 9 (by omega)
      have HO := hM.take (p := IsCells [.int .u8 0, .int .u8 0, .int .u8 0, .int .u8 0, .int .u8 0, .int .u8 0, .int .u8 0, .int .u8 0, .int .u8 0, .int .u8 0, .int .u8 0, .int .u8 0] 39) HLt.out HW0.out hge ⟨_, hgT, rfl⟩
      simp only [List.nil_append, List.cons_append] at HO
      rw [e9]
      clear hd hM hgT e9 hb0 HLt HW0
      go_wp2_with (first
            | (go_at_call 22; refine ((ps_rest s HS.out m (some ⟨gL, 0, none⟩) cap L HLL.out (take_C (HO.at (by first | exact .head _ | exact .tail _ (.head _) | exact .tail _ (.tail _ (.head _)) | exact .tail _ (.tail _ (.tail _ (.head _))) | exact .tail _ (.tail _ (.tail _ (.tail _ (.head _)))) | exact .tail _ (.tail _ (.tail _ (.tail _ (.tail _ (.head _))))) | exact .tail _ (.tail _ (.tail _ (.tail _ (.tail _ (.tail _ (.head _)))))) | exact .tail _ (.tail _ (.tail _ (.tail _ (.tail _ (.tail _ (.tail _ (.head _))))))) | exact .tail _ (.tail _ (.tail _ (.tail _ (.tail _ (.tail _ (.tail _ (.tail _ (.head _)))))))))) HTK.out HLL.out) (Below.refl _ _) K HK.out)).mono ?_; rintro eN wN ⟨rfl, hbN⟩; have HON := HO.call hbN; clear HO hbN; have HO := HON; clear HON)
            | ((with_reducible refine gate ?_); (first
            | ((with_reducible refine gateAt (N := 9) rfl ?_); refine own_alloc (T := 39) HO rfl rfl Try.zeroValue39 rfl ?_; clear HO; intro gO wN hggO HO; (simp only [List.nil_append, List.cons_append] at HO); (try simp only [Act.put, List.setIfInBounds_toArray, List.set_cons_zero, List.set_cons_succ]))
            | ((with_reducible refine gateAt (N := 11) rfl ?_); refine own_alloc (T := 23) HO rfl rfl Try.zeroValue23 rfl ?_; clear HO; intro gK wN hggK HO; (simp only [List.nil_append, List.cons_append] at HO); (try simp only [Act.put, List.setIfInBounds_toArray, List.set_cons_zero, List.set_cons_succ]))
            | ((with_reducible refine gate ?_); refine own_load (T := 38) (n := 12) (vs := u8s s) HO rfl rfl rfl (by first | exact .head _ | exact .tail _ (.head _) | exact .tail _ (.tail _ (.head _)) | exact .tail _ (.tail _ (.tail _ (.head _))) | exact .tail _ (.tail _ (.tail _ (.tail _ (.head _)))) | exact .tail _ (.tail _ (.tail _ (.tail _ (.tail _ (.head _))))) | exact .tail _ (.tail _ (.tail _ (.tail _ (.tail _ (.tail _ (.head _)))))) | exact .tail _ (.tail _ (.tail _ (.tail _ (.tail _ (.tail _ (.tail _ (.head _))))))) | exact .tail _ (.tail _ (.tail _ (.tail _ (.tail _ (.tail _ (.tail _ (.tail _ (.head _))))))))) Try.isAgg38 Try.sizeOf38 (slc12 HS.out) ?_; (try simp only [Act.put, List.setIfInBounds_toArray, List.set_cons_zero, List.set_cons_succ]))
            | ((with_reducible refine gate ?_); refine own_load (T := 39) (n := 12) (vs := u8s S) HO rfl rfl rfl (by first | exact .head _ | exact .tail _ (.head _) | exact .tail _ (.tail _ (.head _)) | exact .tail _ (.tail _ (.tail _ (.head _))) | exact .tail _ (.tail _ (.tail _ (.tail _ (.head _)))) | exact .tail _ (.tail _ (.tail _ (.tail _ (.tail _ (.head _))))) | exact .tail _ (.tail _ (.tail _ (.tail _ (.tail _ (.tail _ (.head _)))))) | exact .tail _ (.tail _ (.tail _ (.tail _ (.tail _ (.tail _ (.tail _ (.head _))))))) | exact .tail _ (.tail _ (.tail _ (.tail _ (.tail _ (.tail _ (.tail _ (.tail _ (.head _))))))))) Try.isAgg39 Try.sizeOf39 (slc12 HS12.out) ?_; (try simp only [Act.put, List.setIfInBounds_toArray, List.set_cons_zero, List.set_cons_succ]))
            | ((with_reducible refine gate ?_); refine own_store (T := 39) (vs := u8s S) HO rfl rfl rfl rfl (by first | exact .here | exact .there (.here) | exact .there (.there (.here)) | exact .there (.there (.there (.here))) | exact .there (.there (.there (.there (.here)))) | exact .there (.there (.there (.there (.there (.here))))) | exact .there (.there (.there (.there (.there (.there (.here)))))) | exact .there (.there (.there (.there (.there (.there (.there (.here))))))) | exact .there (.there (.there (.there (.there (.there (.there (.there (.here))))))))) (size12 HS12.out) (by exact PutAt.all _ _ (len12 HS12.out)) (one12 S) ?_; clear HO; intro wN HO; (try simp only [Act.put, List.setIfInBounds_toArray, List.set_cons_zero, List.set_cons_succ]))
            | ((refine own_box HO rfl rfl rfl ?_); clear HO; intro gN wN hgN HO; (simp only [List.nil_append, List.cons_append] at HO); (try simp only [Act.put, List.setIfInBounds_toArray, List.set_cons_zero, List.set_cons_succ]))
            | ((refine own_load (T := 23) HO rfl rfl rfl (by first | exact .head _ | exact .tail _ (.head _) | exact .tail _ (.tail _ (.head _)) | exact .tail _ (.tail _ (.tail _ (.head _))) | exact .tail _ (.tail _ (.tail _ (.tail _ (.head _)))) | exact .tail _ (.tail _ (.tail _ (.tail _ (.tail _ (.head _))))) | exact .tail _ (.tail _ (.tail _ (.tail _ (.tail _ (.tail _ (.head _)))))) | exact .tail _ (.tail _ (.tail _ (.tail _ (.tail _ (.tail _ (.tail _ (.head _))))))) | exact .tail _ (.tail _ (.tail _ (.tail _ (.tail _ (.tail _ (.tail _ (.tail _ (.head _))))))))) Try.isAgg23 Try.sizeOf23 (by repeat constructor) ?_); (try simp only [Act.put, List.setIfInBounds_toArray, List.set_cons_zero, List.set_cons_succ]))
            | ((refine own_load1 (T := 28) HO rfl rfl rfl (by first | exact .head _ | exact .tail _ (.head _) | exact .tail _ (.tail _ (.head _)) | exact .tail _ (.tail _ (.tail _ (.head _))) | exact .tail _ (.tail _ (.tail _ (.tail _ (.head _)))) | exact .tail _ (.tail _ (.tail _ (.tail _ (.tail _ (.head _))))) | exact .tail _ (.tail _ (.tail _ (.tail _ (.tail _ (.tail _ (.head _)))))) | exact .tail _ (.tail _ (.tail _ (.tail _ (.tail _ (.tail _ (.tail _ (.head _))))))) | exact .tail _ (.tail _ (.tail _ (.tail _ (.tail _ (.tail _ (.tail _ (.tail _ (.head _))))))))) Try.isAgg28 rfl ?_); (try simp only [Act.put, List.setIfInBounds_toArray, List.set_cons_zero, List.set_cons_succ]))
            | ((refine own_store (T := 23) HO rfl rfl rfl rfl (by first | exact .here | exact .there (.here) | exact .there (.there (.here)) | exact .there (.there (.there (.here))) | exact .there (.there (.there (.there (.here)))) | exact .there (.there (.there (.there (.there (.here))))) | exact .there (.there (.there (.there (.there (.there (.here)))))) | exact .there (.there (.there (.there (.there (.there (.there (.here))))))) | exact .there (.there (.there (.there (.there (.there (.there (.there (.here))))))))) Try.sizeOf23 (by repeat constructor) rfl ?_); clear HO; intro wN HO; (try simp only [Act.put, List.setIfInBounds_toArray, List.set_cons_zero, List.set_cons_succ]))
            | ((refine own_store (T := 28) HO rfl rfl rfl rfl (by first | exact .here | exact .there (.here) | exact .there (.there (.here)) | exact .there (.there (.there (.here))) | exact .there (.there (.there (.there (.here)))) | exact .there (.there (.there (.there (.there (.here))))) | exact .there (.there (.there (.there (.there (.there (.here)))))) | exact .there (.there (.there (.there (.there (.there (.there (.here))))))) | exact .there (.there (.there (.there (.there (.there (.there (.there (.here))))))))) Try.sizeOf28 (by repeat constructor) rfl ?_); clear HO; intro wN HO; (try simp only [Act.put, List.setIfInBounds_toArray, List.set_cons_zero, List.set_cons_succ])))))
      obtain ⟨w7, hw7⟩ : ∃ w7, wN = w7 := ⟨_, rfl⟩
      rw [hw7] at HO ⊢
      clear hw7
      have hlt : ∀ q ∈ [(gS, IsCells (u8s s) 38), (gM, IsCells [.bool m.cursor, .bool m.keypad, .bool m.back, .bool m.focus, .bool m.paste, .bool m.lock, .bool m.line, .int .i64 m.mouse, .int .i64 m.coding, .int .i64 m.other] 23), (gB, IsCells [.slice A a.length cA, .slice B b.length cB] 50), (gL, IsCells cur.toList 3), (gO, IsCells (u8s S) 39), (gT, IsCells (u8s S) 39), (gK, IsCells [.bool K.cursor, .bool K.keypad, .bool K.back, .bool K.focus, .bool K.paste, .bool K.lock, .bool K.line, .int .i64 K.mouse, .int .i64 K.coding, .int .i64 K.other] 23)], q.1 < _ := fun q hq => HO.lt hq
      have hW0 := HO.below.size
      have HLt := Lib.hid hlt
      have HW0 := Lib.hid hW0
      clear hlt hW0
      refine region_law 10 [fIs (.agg (u8s s).toArray), fIs (.agg (u8s s).toArray), fIs (m.v), fIs (.pointer (some ⟨gB, 0, none⟩)), fIs (.slice A a.length cA), fIs (K1.v), fIs (.pointer (some ⟨gB, 1, none⟩)), fIs (.slice B b.length cB), fIs (K.v), fVar w7.heap.size 23 [.bool false, .bool false, .bool false, .bool false, .bool false, .bool false, .bool false, .int .i64 0, .int .i64 0, .int .i64 0]] HO (by kernel_rfl) (by kernel_rfl) (by decide) (by kernel_rfl)
        (stays_cons (Stays.fIs _) (stays_cons (Stays.fIs _) (stays_cons (Stays.fIs _) (stays_cons (Stays.fIs _) (stays_cons (Stays.fIs _) (stays_cons (Stays.fIs _) (stays_cons (Stays.fIs _) (stays_cons (Stays.fIs _) (stays_cons (Stays.fIs _) (stays_cons (Stays.fVar _ _ _) stays_nil)))))))))) ?_
      intro vals A hA
      simp [fillL, dstOf, List.range, List.range.loop, Act.put] at hA
      subst hA
      refine ⟨⟨?_, ?_, ?_, ?_, ?_, ?_, ?_, ?_, ?_, ?_, trivial⟩, ?_⟩
      all_goals intro W hd hM hb0
      case refine_1 =>
        skip
        exact st_load hM rfl rfl rfl (.head _) Try.isAgg38 Try.sizeOf38 (slc12 HS.out) rfl
      case refine_2 =>
        skip
        exact st_load hM rfl rfl rfl (.head _) Try.isAgg38 Try.sizeOf38 (slc12 HS.out) rfl
      case refine_3 =>
        skip
        exact st_load hM rfl rfl rfl (.tail _ (.head _)) Try.isAgg23 Try.sizeOf23 (by repeat constructor) rfl
      case refine_4 =>
        skip
        exact st_val rfl (by simp only [execOp]; first | (go_simp; done) | (go_simp; rfl)) rfl
      case refine_5 =>
        have v3 : vals 3 = .pointer (some ⟨gB, 0, none⟩) := hd 3 (by kernel_rfl)
        rw [v3]
        exact st_load1 hM rfl rfl rfl (.tail _ (.tail _ (.head _))) Try.isAgg28 rfl rfl
      case refine_6 =>
        have v1 : vals 1 = .agg (u8s s).toArray := hd 1 (by kernel_rfl)
        have v2 : vals 2 = m.v := hd 2 (by kernel_rfl)
        have v4 : vals 4 = .slice A a.length cA := hd 4 (by kernel_rfl)
        rw [v1, v2, v4]
        have hcall := ps_rest s HS.out m A cA a (by have := HLA.out; omega) HCA.out hM.below K1 HK1.out
        change Calls Try.prog 22 #[.agg (u8s s).toArray, m.v, .slice A a.length cA] W _ at hcall
        exact st_call rfl (by simp only [execOp]; first | (go_simp; done) | (go_simp; rfl)) hcall (by rintro e w' ⟨rfl, hb⟩; exact ⟨_, rfl, hb, rfl⟩)
      case refine_7 =>
        skip
        exact st_val rfl (by simp only [execOp]; first | (go_simp; done) | (go_simp; rfl)) rfl
      case refine_8 =>
        have v6 : vals 6 = .pointer (some ⟨gB, 1, none⟩) := hd 6 (by kernel_rfl)
        rw [v6]
        exact st_load1 hM rfl rfl rfl (.tail _ (.tail _ (.head _))) Try.isAgg28 rfl rfl
      case refine_9 =>
        have v0 : vals 0 = .agg (u8s s).toArray := hd 0 (by kernel_rfl)
        have v5 : vals 5 = K1.v := hd 5 (by kernel_rfl)
        have v7 : vals 7 = .slice B b.length cB := hd 7 (by kernel_rfl)
        rw [v0, v5, v7]
        have hcall := ps_rest s HS.out K1 B cB b (by have := HLB.out; omega) HCB.out hM.below K H3.out
        change Calls Try.prog 22 #[.agg (u8s s).toArray, K1.v, .slice B b.length cB] W _ at hcall
        exact st_call rfl (by simp only [execOp]; first | (go_simp; done) | (go_simp; rfl)) hcall (by rintro e w' ⟨rfl, hb⟩; exact ⟨_, rfl, hb, rfl⟩)
      case refine_10 =>
        skip
        exact st_new (ob := .cells #[.bool false, .bool false, .bool false, .bool false, .bool false, .bool false, .bool false, .int .i64 0, .int .i64 0, .int .i64 0] 23 (0, 0)) rfl (by simp only [execOp]; first | (go_simp; done) | (go_simp; rfl)) (fun h => ⟨_, rfl, hb0.size, h⟩)
      case refine_11 =>
        have v8 : vals 8 = K.v := hd 8 (by omega)
        rw [v8]
        simp only [List.drop_succ_cons, List.drop_zero]
        obtain ⟨gX, e9, hge, hgX⟩ : fVar w7.heap.size 23 _ (vals 9) W := hd 9 (by omega)
        have HO := hM.take (p := IsCells [.bool false, .bool false, .bool false, .bool false, .bool false, .bool false, .bool false, .int .i64 0, .int .i64 0, .int .i64 0] 23) HLt.out HW0.out hge ⟨_, hgX, rfl⟩
        simp only [List.nil_append, List.cons_append] at HO
        rw [e9]
        clear hd hM hgX e9 hb0 HLt HW0
        go_wp2_with (first
              | ((with_reducible refine gate ?_); (first
              | ((with_reducible refine gate ?_); refine own_load (T := 39) (n := 12) (vs := u8s S) HO rfl rfl rfl (by first | exact .head _ | exact .tail _ (.head _) | exact .tail _ (.tail _ (.head _)) | exact .tail _ (.tail _ (.tail _ (.head _))) | exact .tail _ (.tail _ (.tail _ (.tail _ (.head _)))) | exact .tail _ (.tail _ (.tail _ (.tail _ (.tail _ (.head _))))) | exact .tail _ (.tail _ (.tail _ (.tail _ (.tail _ (.tail _ (.head _)))))) | exact .tail _ (.tail _ (.tail _ (.tail _ (.tail _ (.tail _ (.tail _ (.head _))))))) | exact .tail _ (.tail _ (.tail _ (.tail _ (.tail _ (.tail _ (.tail _ (.tail _ (.head _))))))))) Try.isAgg39 Try.sizeOf39 (slc12 HS12.out) ?_; (try simp only [Act.put, List.setIfInBounds_toArray, List.set_cons_zero, List.set_cons_succ]))
              | ((refine own_eql (t := 39) rfl rfl rfl rfl (by kernel_rfl) HE1.out ?_); (try simp only [Act.put, List.setIfInBounds_toArray, List.set_cons_zero, List.set_cons_succ]))
              | ((refine own_eql (t := 23) rfl rfl rfl rfl (by kernel_rfl) HE2.out ?_); (try simp only [Act.put, List.setIfInBounds_toArray, List.set_cons_zero, List.set_cons_succ]))
              | ((refine own_box HO rfl rfl rfl ?_); clear HO; intro gN wN hgN HO; (simp only [List.nil_append, List.cons_append] at HO); (try simp only [Act.put, List.setIfInBounds_toArray, List.set_cons_zero, List.set_cons_succ]))
              | ((refine own_load (T := 23) HO rfl rfl rfl (by first | exact .head _ | exact .tail _ (.head _) | exact .tail _ (.tail _ (.head _)) | exact .tail _ (.tail _ (.tail _ (.head _))) | exact .tail _ (.tail _ (.tail _ (.tail _ (.head _)))) | exact .tail _ (.tail _ (.tail _ (.tail _ (.tail _ (.head _))))) | exact .tail _ (.tail _ (.tail _ (.tail _ (.tail _ (.tail _ (.head _)))))) | exact .tail _ (.tail _ (.tail _ (.tail _ (.tail _ (.tail _ (.tail _ (.head _))))))) | exact .tail _ (.tail _ (.tail _ (.tail _ (.tail _ (.tail _ (.tail _ (.tail _ (.head _))))))))) Try.isAgg23 Try.sizeOf23 (by repeat constructor) ?_); (try simp only [Act.put, List.setIfInBounds_toArray, List.set_cons_zero, List.set_cons_succ]))
              | ((refine own_load1 (T := 28) HO rfl rfl rfl (by first | exact .head _ | exact .tail _ (.head _) | exact .tail _ (.tail _ (.head _)) | exact .tail _ (.tail _ (.tail _ (.head _))) | exact .tail _ (.tail _ (.tail _ (.tail _ (.head _)))) | exact .tail _ (.tail _ (.tail _ (.tail _ (.tail _ (.head _))))) | exact .tail _ (.tail _ (.tail _ (.tail _ (.tail _ (.tail _ (.head _)))))) | exact .tail _ (.tail _ (.tail _ (.tail _ (.tail _ (.tail _ (.tail _ (.head _))))))) | exact .tail _ (.tail _ (.tail _ (.tail _ (.tail _ (.tail _ (.tail _ (.tail _ (.head _))))))))) Try.isAgg28 rfl ?_); (try simp only [Act.put, List.setIfInBounds_toArray, List.set_cons_zero, List.set_cons_succ]))
              | ((refine own_store (T := 23) HO rfl rfl rfl rfl (by first | exact .here | exact .there (.here) | exact .there (.there (.here)) | exact .there (.there (.there (.here))) | exact .there (.there (.there (.there (.here)))) | exact .there (.there (.there (.there (.there (.here))))) | exact .there (.there (.there (.there (.there (.there (.here)))))) | exact .there (.there (.there (.there (.there (.there (.there (.here))))))) | exact .there (.there (.there (.there (.there (.there (.there (.there (.here))))))))) Try.sizeOf23 (by repeat constructor) rfl ?_); clear HO; intro wN HO; (try simp only [Act.put, List.setIfInBounds_toArray, List.set_cons_zero, List.set_cons_succ]))
              | ((refine own_store (T := 28) HO rfl rfl rfl rfl (by first | exact .here | exact .there (.here) | exact .there (.there (.here)) | exact .there (.there (.there (.here))) | exact .there (.there (.there (.there (.here)))) | exact .there (.there (.there (.there (.there (.here))))) | exact .there (.there (.there (.there (.there (.there (.here)))))) | exact .there (.there (.there (.there (.there (.there (.there (.here))))))) | exact .there (.there (.there (.there (.there (.there (.there (.there (.here))))))))) Try.sizeOf28 (by repeat constructor) rfl ?_); clear HO; intro wN HO; (try simp only [Act.put, List.setIfInBounds_toArray, List.set_cons_zero, List.set_cons_succ])))))
        go_ret
        exact ⟨rfl, HO.below⟩
theorem saveParts_calls (s : List Int) (hs : s.length = 12) (m : Md) (A : Option Addr) (cA : Nat) (a : List Int) (B : Option Addr) (cB : Nat) (b : List Int) (w : World) (hCA : (Kd.int .i64).C w A a.length a) (hCB : (Kd.int .i64).C w B b.length b) :
    Calls Try.prog 11 #[.agg (u8s s).toArray, m.v, .agg #[.slice A a.length cA, .slice B b.length cB]] w fun e w' => e = .returned (.bool true) ∧ Below w.heap.size w w' := by
  by_cases ha : 20 < a.length
  · exact saveParts_long1 s hs m A cA a B cB b w ha
  · by_cases hb : 20 < b.length
    · exact saveParts_long2 s hs m A cA a B cB b w ha hb
    · exact saveParts_short s hs m A cA a B cB b w ha hb hCA hCB
end Go.Proofs.Ytllloedhlcdbjaa
end
