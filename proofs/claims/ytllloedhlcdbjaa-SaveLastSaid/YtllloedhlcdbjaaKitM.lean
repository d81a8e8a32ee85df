/- A drawing region beside blocks of the call's own: facts that stay; steps. No condition. -/
import Derived.Test.YtllloedhlcdbjaaKitZ
namespace Go.Proofs.Ytllloedhlcdbjaa.Kit
set_option linter.unusedVariables false
set_option linter.unusedSimpArgs false
open Go Go.RowKit

abbrev Fact := Value → World → Prop
/-- a fact that stays, whatever is made behind it -/
def Stays (p : Fact) : Prop := ∀ v w w', p v w → Below w.heap.size w w' → p v w'
def fIs (x : Value) : Fact := fun v _ => v = x
def fAny : Fact := fun _ _ => True
/-- a new row with these cells -/
def fRow (T : TypeId) (n : Nat) (cs : List Value) : Fact := fun v w => ∃ b, v = .slice (some ⟨b, 0, none⟩) n n ∧ w.heap[b]? = some (.cells cs.toArray T (0, 0))
/-- a new variable (a block from B on) with these cells -/
def fVar (B : Nat) (T : TypeId) (cs : List Value) : Fact := fun v w => ∃ b, v = .pointer (some ⟨b, 0, none⟩) ∧ B ≤ b ∧ w.heap[b]? = some (.cells cs.toArray T (0, 0))
theorem Stays.fIs (x : Value) : Stays (fIs x) := fun _ _ _ h _ => h
theorem Stays.fAny : Stays fAny := fun _ _ _ h _ => h
theorem Stays.fRow (T : TypeId) (n : Nat) (cs : List Value) : Stays (fRow T n cs) := fun v w w' h hb => by
  obtain ⟨b, h1, h2⟩ := h
  exact ⟨b, h1, (hb.block b (Array.getElem?_eq_some_iff.1 h2).1).trans h2⟩
theorem Stays.fVar (B : Nat) (T : TypeId) (cs : List Value) : Stays (fVar B T cs) := fun v w w' h hb => by
  obtain ⟨b, h1, h2, h3⟩ := h
  exact ⟨b, h1, h2, (hb.block b (Array.getElem?_eq_some_iff.1 h3).1).trans h3⟩
def Facts (fs : List Fact) (i : Nat) : Fact := fs.getD i fAny
theorem Facts.stays {fs : List Fact} (h : ∀ p ∈ fs, Stays p) (i : Nat) : Stays (Facts fs i) := by
  unfold Facts
  rw [List.getD_eq_getElem?_getD]
  cases hi : fs[i]? with
  | none => exact Stays.fAny
  | some p => exact h p (List.mem_of_getElem? hi)
theorem stays_cons {p : Fact} {fs : List Fact} (h : Stays p) (hs : ∀ q ∈ fs, Stays q) : ∀ q ∈ p :: fs, Stays q := by
  intro q hq
  rcases List.mem_cons.1 hq with rfl | hq
  · exact h
  · exact hs q hq
theorem stays_nil : ∀ q ∈ ([] : List Fact), Stays q := fun q h => by cases h

section
variable {P : Program} {Q : Exit → Act → World → Prop}
/-- **A DRAWING REGION BESIDE BLOCKS OF THE CALL's OWN.** -/
theorem region_mine (k : Nat) (fs : List Fact) {id : Nat} {l : List Oper} {a0 : Act} {W0 w0 : World} {bs : Res} (HO : Mine W0 w0 bs) (hm : P.follows .mixedOrders = true) (hB : anyOk l.toArray = true) (hk : decide (k ≤ l.length) = true) (hT : tailOk l.toArray k = true)
    (hs : ∀ p ∈ fs, Stays p)
    (h : ∀ vals A, A = fillL l.toArray vals (List.range k) a0 →
      eachFrom (fun i o => ∀ w, (∀ j, waits l.toArray o j = true → Facts fs j (vals j) w) → Mine W0 w bs → w0.heap.size ≤ w.heap.size → StepOk P l.toArray o A w fun v w' => Below w.heap.size w w' ∧ Facts fs i v w') 0 (l.take k) ∧
      ∀ w, (∀ i < k, Facts fs i (vals i) w) → Mine W0 w bs → w0.heap.size ≤ w.heap.size → wpList P l.toArray Q (l.drop k) A w) :
    (Code.region id l.toArray true).wp P Q a0 w0 := by
  refine wp_region_walk k hm hB hk hT (fun w => Mine W0 w bs ∧ w0.heap.size ≤ w.heap.size) (fun a b => Below a.heap.size a b) (fun _ => []) (fun i vals w => Facts fs i (vals i) w) ?_ (fun i vals w w' h1 h2 => Facts.stays hs i _ _ _ h1 h2) (fun i vals vals' w e _ h1 => by rw [e]; exact h1) ⟨HO.drew, Nat.le_refl _⟩ ?_
  · refine List.all_eq_true.2 fun i _ => ?_
    cases l[i]? <;> simp
  · intro vals A hA
    obtain ⟨h1, h2⟩ := h vals A hA
    refine ⟨?_, fun w hf hI => h2 w hf hI.1 hI.2⟩
    have mono : ∀ (R R' : Nat → Oper → Prop), (∀ i o, R i o → R' i o) → ∀ (l : List Oper) (k : Nat), eachFrom R k l → eachFrom R' k l := by
      intro R R' hR l
      induction l with
      | nil => intro k _; trivial
      | cons o l ih => intro k hk; exact ⟨hR _ _ hk.1, ih _ hk.2⟩
    refine mono _ _ (fun i o hi w hf hI => ?_) _ _ h1
    have h3 := hi w hf hI.1 hI.2
    have k2 : ∀ {v w'}, (Below w.heap.size w w' ∧ Facts fs i v w') → ((Mine W0 w' bs ∧ w0.heap.size ≤ w'.heap.size) ∧ Below w.heap.size w w' ∧ ∀ vals' : Nat → Value, vals' i = v → (∀ d ∈ ([] : List Nat), vals' d = vals d) → Facts fs i (vals' i) w') := by
      rintro v w' ⟨hb, hf⟩
      exact ⟨⟨hI.1.call hb, Nat.le_trans hI.2 hb.size⟩, hb, fun vals' e _ => by rw [e]; exact hf⟩
    unfold StepOk at h3 ⊢
    split
    · rename_i hw
      rw [if_pos hw] at h3
      generalize (execOp A.eval o).run P w = r at h3 ⊢
      cases r with
      | ok n w' =>
        cases n <;> simp only [StepUpon] at h3 ⊢
        case value u => exact k2 h3
        case skip => exact k2 h3
        case enter f args => exact h3.mono fun e w'' he => by obtain ⟨v, rfl, hk⟩ := he; exact ⟨v, rfl, k2 hk⟩
      | halt x w' => simp only [StepUpon] at h3
    · rename_i hw
      rw [if_neg hw] at h3
      exact k2 h3

variable {ops : Array Oper} {A : Act} {w : World} {o : Oper} {fa : Fact}
/-- the steps: a value; a call; a row made; a variable made -/
theorem st_val {v : Value} (hg : Region.wanted o (yielded ops A.tmps) = true) (h : (execOp A.eval o).run P w = .ok (.value v) w) (hf : fa v w) : StepOk P ops o A w fun v w' => Below w.heap.size w w' ∧ fa v w' := step_value hg h ⟨Below.refl _ _, hf⟩
theorem st_pass (hg : Region.wanted o (yielded ops A.tmps) = false) (hf : fa undef w) : StepOk P ops o A w fun v w' => Below w.heap.size w w' ∧ fa v w' := step_passed hg ⟨Below.refl _ _, hf⟩
theorem st_call {f : FuncId} {args : Array Value} {R : Ending → World → Prop} (hg : Region.wanted o (yielded ops A.tmps) = true) (h : (execOp A.eval o).run P w = .ok (.enter f args) w) (hc : Calls P f args w R)
    (hR : ∀ e w', R e w' → ∃ v, e = .returned v ∧ Below w.heap.size w w' ∧ fa v w') : StepOk P ops o A w fun v w' => Below w.heap.size w w' ∧ fa v w' := step_call hg h hc hR
theorem st_new {v : Value} {ob : Obj} (hg : Region.wanted o (yielded ops A.tmps) = true) (h : (execOp A.eval o).run P w = .ok (.value v) (w.alloc ob)) (hf : (w.alloc ob).heap[w.heap.size]? = some ob → fa v (w.alloc ob)) : StepOk P ops o A w fun v w' => Below w.heap.size w w' ∧ fa v w' :=
  step_made hg h ⟨(Below.refl _ _).alloc (Nat.le_refl _) _, hf (heap_alloc_new w ob)⟩
theorem st_load {W0 : World} {bs : Res} {x : Operand} {T E : TypeId} {g off n : Nat} {cs vs : List Value} (HO : Mine W0 w bs) (hg : Region.wanted o (yielded ops A.tmps) = true) (ho : o.op = .load T x) (hx : A.eval x = .pointer (some ⟨g, off, none⟩)) (hm : (g, IsCells cs E) ∈ bs)
    (hagg : ∀ w, (isAgg T).run P w = .ok true w) (hsz : ∀ w, (sizeOf T).run P w = .ok n w) (hs : Slc cs off n vs) (hf : fa (.agg vs.toArray) w) : StepOk P ops o A w fun v w' => Below w.heap.size w w' ∧ fa v w' :=
  st_val hg (by simp only [execOp, ho, hx, Instr.loadAt, Instr.sureAddr, Sem.run_bind, Sem.run_pure, Result.andThen_ok, run_load_own (HO.at hm) hagg hsz hs]) hf
theorem st_load1 {W0 : World} {bs : Res} {x : Operand} {T E : TypeId} {g off : Nat} {cs : List Value} {v : Value} (HO : Mine W0 w bs) (hg : Region.wanted o (yielded ops A.tmps) = true) (ho : o.op = .load T x) (hx : A.eval x = .pointer (some ⟨g, off, none⟩)) (hm : (g, IsCells cs E) ∈ bs)
    (hagg : ∀ w, (isAgg T).run P w = .ok false w) (hv : cs[off]? = some v) (hf : fa v w) : StepOk P ops o A w fun v w' => Below w.heap.size w w' ∧ fa v w' :=
  st_val hg (by simp only [execOp, ho, hx, Instr.loadAt, Instr.sureAddr, Sem.run_bind, Sem.run_pure, Result.andThen_ok, run_load1_own (HO.at hm) hagg hv]) hf
theorem st_read {W0 : World} {bs : Res} {x : Operand} {T : TypeId} {ad : Addr} {v : Value} (HO : Mine W0 w bs) (hg : Region.wanted o (yielded ops A.tmps) = true) (ho : o.op = .load T x) (hx : A.eval x = .pointer (some ad)) (hc : W0.cell? ad = some v)
    (hagg : ∀ w, (isAgg T).run P w = .ok false w) (hf : fa v w) : StepOk P ops o A w fun v w' => Below w.heap.size w w' ∧ fa v w' := by
  have hc' := (HO.below.cell (World.block_lt_of_cell? W0 _ hc)).trans hc
  have hr : (loadVar T ad).run P w = .ok v w := by simp [loadVar, Sem.run_bind, hagg, load, Sem.run, hc']
  exact st_val hg (by simp only [execOp, ho, hx, Instr.loadAt, Instr.sureAddr, Sem.run_bind, Sem.run_pure, Result.andThen_ok, hr]) hf
theorem st_lookup {W0 : World} {bs : Res} {x kx : Operand} {commaOk ok : Bool} {mt kt et : TypeId} {d : TypeDesc} {k v z : Value} {T : List (Value × Value)} {g : Nat} (HO : Mine W0 w bs) (hg : Region.wanted o (yielded ops A.tmps) = true) (ho : o.op = .lookup mt x kx commaOk) (hx : A.eval x = .map (some g)) (hkx : A.eval kx = k)
    (hm : P.underlying mt = some (.map kt et)) (hd : P.underlying kt = some d) (hz : ∀ w, (zeroValue et).run P w = .ok z w) (hmem : (g, IsMapOf T) ∈ bs) (hkeys : (T.map (·.1)).Nodup) (hT : ∀ p ∈ T, MapKept.IsKey d p.1) (hk : MapKept.IsKey d k)
    (hs : Says T k z v ok) (hf : fa (if commaOk then .tuple #[v, .bool ok] else v) w) : StepOk P ops o A w fun v w' => Below w.heap.size w w' ∧ fa v w' :=
  st_val hg (by simp only [execOp, ho, hx, hkx]; rw [Sem.run_bind, run_lookup hm hd hz (HO.holds hmem) hkeys hT hk hs commaOk]; rfl) hf
/-- a block that was made is taken in -/
theorem Mine.take {W0 w : World} {bs : Res} {g : Nat} {p : Obj → Prop} {B : Nat} (h : Mine W0 w bs) (hlt : ∀ q ∈ bs, q.1 < B) (hW : W0.heap.size ≤ B) (hg : B ≤ g) (ho : ∃ o, w.heap[g]? = some o ∧ p o) : Mine W0 w (bs ++ [(g, p)]) := by
  refine ⟨h.below, ?_, ?_⟩
  · rw [List.map_append, List.nodup_append]
    refine ⟨h.nodup, by simp, ?_⟩
    intro x hx y hy e
    obtain ⟨q, hq, rfl⟩ := List.mem_map.1 hx
    have := hlt q hq
    simp at hy
    omega
  · intro q hq
    rcases List.mem_append.1 hq with hq | hq
    · exact h.held q hq
    · rw [List.mem_singleton.1 hq]
      exact ⟨Nat.le_trans hW hg, ho⟩
end
end Go.Proofs.Ytllloedhlcdbjaa.Kit
