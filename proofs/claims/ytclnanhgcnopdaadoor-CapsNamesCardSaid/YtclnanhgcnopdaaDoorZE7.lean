/- E: texts run together by shake.py: WWords KitA WLast WApart KitZ KitM PNu WShare WN WInvWords WMore Gx0 Gclavierref20a CaL RgL CaT. -/
import Derived.ArgAppend
import Derived.Below
import Derived.BigQuiet
import Derived.Deep.AppendLies
import Derived.Deep.CutBlock
import Derived.Deep.DeepCutAuto
import Derived.Deep.DrawnRows
import Derived.Deep.Draws
import Derived.Deep.LoopGhost
import Derived.Deep.OwnRows
import Derived.Deep.Quiet
import Derived.Deep.QuietTactic
import Derived.Deep.RegionHeld3
import Derived.Ground.GgzProg
import Derived.KernelRfl
import Derived.Laws.AppendOwn
import Derived.Laws.AppendOwnNone
import Derived.Laws.BitsAllLaws
import Derived.Laws.BitsLemmas
import Derived.Laws.BytesArg
import Derived.Laws.CopyRow
import Derived.Laws.IdiomCopy
import Derived.Laws.IdiomStrings
import Derived.Laws.MakeOwn
import Derived.Laws.OwnMore
import Derived.Laws.RangeAny
import Derived.Laws.Rows
import Derived.Laws.Slices
import Derived.Laws.StructEq
import Derived.Laws.Tables
import Derived.Lib.AppendStr
import Derived.Lib.ConvBytes
import Derived.Lib.Hide
import Derived.Lib.ItoaNum
import Derived.Lib.OthersKept
import Derived.Lib.SlKeysI
import Derived.Lib.TrimU
import Derived.MapKept
import Derived.Maps.AppendAt
import Derived.Maps.Own
import Derived.Orders
import Derived.OrdersHeld
import Derived.OrdersIn
import Derived.Outline
import Derived.OwnWalk
import Derived.RangeFuncCalls
import Derived.RangeFuncNested
import Derived.RangeFuncWrites
import Derived.RowKit
import Derived.RowKit3
import Derived.Shelf.LaysM
import Derived.Shelf.SlIter.Nil
import Derived.Shelf.Slices.Empties2
import Derived.Shelf.Slices.Equal
import Derived.Shelf.Slices.In.SortNone
import Derived.Shelf.Small.Bits
import Derived.Shelf.Small.Strs
import Derived.Shelf.Small.Utf8
import Derived.Shelf.Sort.Plain
import Derived.Shelf.SortM.Plain
import Derived.Shelf.SortM.SortNone
import Derived.Shelf.Strconv.Itoa0
import Derived.Shelf.Strings.Builder1
import Derived.Shelf.Strings.Builder2
import Derived.Shelf.Strings.Builder2Cap
import Derived.Shelf.Strings.BuilderCap
import Derived.Shelf.Strings.BuilderF
import Derived.Shelf.Strings.BuilderK
import Derived.Shelf.Strings.Cut
import Derived.Shelf.Strings.OnBuilder
import Derived.Shelf.Strings.Runes
import Derived.Shelf.Strings.Search1
import Derived.Shelf.Strings.Search2
import Derived.Shelf.Strings.Search3
import Derived.Shelf.Strings.Shaped
import Derived.Shelf.Unicode.Decode
import Derived.Shelf.Unicode.DecodeAny
import Derived.Shelf.Unicode.DecodeSlow
import Derived.Still
import Derived.Tactics
import Derived.TacticsIn
import Derived.Test.YtclnanhgcnopdaaDoorProg
import Derived.WalkKit
import Derived.WalkLawsBesides
import Derived.WalkSpells
import Derived.WideLaws
import Derived.Test.YtclnanhgcnopdaaDoorZE1
import Derived.Test.YtclnanhgcnopdaaDoorZE2
import Derived.Test.YtclnanhgcnopdaaDoorZE3
import Derived.Test.YtclnanhgcnopdaaDoorZE4
section
set_option linter.unusedVariables false
set_option linter.unusedSimpArgs false
namespace Go.Proofs.YtclnanhgcnopdaaDoorW.PrintWords
open Go.RowKit
theorem Drawn0.step {w w' : World} (h : Drawn0 w w') (n : Nat) : Drawn0 w (w'.drewN n) := by
  obtain ⟨m, rfl⟩ := h
  exact ⟨⟨m + n, World.drewN_drewN ..⟩⟩
theorem own_nil (W : World) (base : Nat) (e : TypeId) (size : Nat) : W.ownsRow base e size (.slice none 0 0) 0 [] := ⟨by simp, .inl ⟨rfl, rfl⟩⟩
theorem add_field (ad : Addr) (m j : Nat) (hj : 0 < j) : ad.add (m + j) = ⟨(ad.add m).block, (ad.add m).off + j, none⟩ := by
  unfold Addr.add
  by_cases hm : m = 0
  · subst hm
    simp [Nat.ne_of_gt hj]
  · simp [hm, Nat.add_assoc]
theorem Ev.step {α : Type} {g f : Nat → Option α} {r : α} (h : ∀ k, g (k + 1) = f k) (k : Ev f r) : Ev g r := by
  obtain ⟨K, k⟩ := k
  refine ⟨K + 1, fun n hn => ?_⟩
  obtain ⟨m, rfl⟩ : ∃ m, n = m + 1 := ⟨n - 1, by omega⟩
  rw [h]
  exact k m (by omega)
theorem Ev.congr {α : Type} {g f : Nat → Option α} {r : α} (h : ∀ k, g k = f k) (k : Ev f r) : Ev g r := by
  obtain ⟨K, k⟩ := k
  exact ⟨K, fun n hn => (h n).trans (k n hn)⟩
section
variable {α : Type} {R R' : α → List Value → Prop} {e : TypeId} {size : Nat} {w w1 : World} {base : Nat} {v : Value} {ps : List α}
theorem OwnRow.none_ (R : α → List Value → Prop) (e : TypeId) (size : Nat) (w : World) (base : Nat) : OwnRow R e size w base (.slice none 0 0) [] := ⟨[], own_nil _ _ _ _, Reps.none _ _⟩
end
namespace Kd
section
variable {α : Type} {d : Kd α} {e : Nat} {w w1 : World} {base : Nat} {ok ok' : Nat → Prop} {v : Value} {xs : List α}
theorem R_nil (d : Kd α) (e : Nat) (w : World) (base : Nat) (ok : Nat → Prop) : d.R e w base ok (.slice none 0 0) [] := ⟨fun k hk => by simp [Value.ownBlock] at hk, OwnRow.none_ _ _ _ _ _⟩
theorem R_step (h : d.R e w base ok v xs) (hm : ∀ k, ok k → k < w.heap.size → w1.heap[k]? = w.heap[k]?) : d.R e w1 base ok v xs :=
  R_mono (R_move (R_bound h) (fun k hk => hm k hk.1 hk.2.2.1)) (fun _ hk => hk.1)
theorem M_step {x : α} {cs : List Value} (h : d.M w base ok x cs) (hm : ∀ k, ok k → k < w.heap.size → w1.heap[k]? = w.heap[k]?) : d.M w1 base ok x cs :=
  d.M_mono (fun _ hk => hk.1) (d.M_move (fun k hk => hm k hk.1 hk.2.2.1) (d.M_bound h))
theorem R_below (h : d.R e w base ok v xs) (hb : Below w.heap.size w w1) : d.R e w1 base ok v xs := R_step h (fun k _ hk => hb.block k hk)
theorem M_below {x : α} {cs : List Value} (h : d.M w base ok x cs) (hb : Below w.heap.size w w1) : d.M w1 base ok x cs := M_step h (fun k _ hk => hb.block k hk)
theorem R_slice (h : d.R e w base ok v xs) : ∃ A c, v = .slice A xs.length c := by
  obtain ⟨A, c, he, _⟩ := R_reads h
  exact ⟨A, c, he⟩
theorem R_own (h : d.R e w base ok v xs) : ∃ inner, w.ownsRow base e d.sz v xs.length inner := by
  obtain ⟨_, inner, ho, _⟩ := h
  exact ⟨inner, ho⟩
end
def pair {α β : Type} (a : Kd α) (b : Kd β) : Kd (α × β) where
  sz := a.sz + b.sz
  E := a.E ++ b.E
  K := fun w x cs => ∃ c0 c1, cs = c0 ++ c1 ∧ a.K w x.1 c0 ∧ b.K w x.2 c1
  M := fun w base ok x cs => ∃ c0 c1, cs = c0 ++ c1 ∧ a.M w base ok x.1 c0 ∧ b.M w base ok x.2 c1
  K_len := by
    rintro w x cs ⟨c0, c1, rfl, h0, h1⟩
    rw [List.length_append, a.K_len h0, b.K_len h1]
  K_one := by
    rintro w x cs ⟨c0, c1, rfl, h0, h1⟩ u hu
    rcases List.mem_append.1 hu with hu | hu
    · exact a.K_one h0 u hu
    · exact b.K_one h1 u hu
  K_below := by
    rintro w w1 x cs hb ⟨c0, c1, rfl, h0, h1⟩
    exact ⟨c0, c1, rfl, a.K_below hb h0, b.K_below hb h1⟩
  K_of_M := by
    rintro w base ok x cs ⟨c0, c1, rfl, h0, h1⟩
    exact ⟨c0, c1, rfl, a.K_of_M h0, b.K_of_M h1⟩
  M_mono := by
    rintro w base ok ok' x cs hok ⟨c0, c1, rfl, h0, h1⟩
    exact ⟨c0, c1, rfl, a.M_mono hok h0, b.M_mono hok h1⟩
  M_bound := by
    rintro w base ok x cs ⟨c0, c1, rfl, h0, h1⟩
    refine ⟨c0, c1, rfl, a.M_mono ?_ (a.M_bound h0), b.M_mono ?_ (b.M_bound h1)⟩
    · rintro k ⟨h2, h3, h4, q, hq, hc⟩
      exact ⟨h2, h3, h4, q, List.mem_append_left _ hq, hc⟩
    · rintro k ⟨h2, h3, h4, q, hq, hc⟩
      exact ⟨h2, h3, h4, q, List.mem_append_right _ hq, hc⟩
  M_move := by
    rintro w w1 base ok x cs hm ⟨c0, c1, rfl, h0, h1⟩
    exact ⟨c0, c1, rfl, a.M_move hm h0, b.M_move hm h1⟩
  M_lower := by
    rintro w base base' ok x cs hb ⟨c0, c1, rfl, h0, h1⟩
    exact ⟨c0, c1, rfl, a.M_lower hb h0, b.M_lower hb h1⟩
def iso {α β : Type} (d : Kd α) (f : β → α) : Kd β where
  sz := d.sz
  E := d.E
  K := fun w x cs => d.K w (f x) cs
  M := fun w base ok x cs => d.M w base ok (f x) cs
  K_len := d.K_len
  K_one := d.K_one
  K_below := d.K_below
  K_of_M := d.K_of_M
  M_mono := d.M_mono
  M_bound := d.M_bound
  M_move := d.M_move
  M_lower := d.M_lower
theorem R_appended {α : Type} {d : Kd α} {e base : Nat} {ok okp : Nat → Prop} {W w1 : World} {v v1 : Value} {xs : List α} {p : α} {inner cs : List Value} (h0 : ∀ k, v.ownBlock = some k → ok k) (hr : Reps (d.M W base (fun k => ok k ∧ some k ≠ v.ownBlock)) d.sz xs inner) (hp : d.M W base okp p cs) (hokp : ∀ k, okp k → ok k ∧ some k ≠ v.ownBlock) (hfresh : ∀ k, W.heap.size ≤ k → ok k)
    (hown : w1.ownsRow base e d.sz v1 (xs.length + 1) (inner ++ cs)) (hg : W.grownBy w1 v.ownBlock) (hat : v1.ownBlock = v.ownBlock ∨ ∃ b, v1.ownBlock = some b ∧ W.heap.size ≤ b) : d.R e w1 base ok v1 (xs ++ [p]) := by
  have hne : ∀ k, some k ≠ v.ownBlock → k < W.heap.size → some k ≠ v1.ownBlock := by
    intro k hk hlt
    rcases hat with hat | ⟨b, hb, hle⟩
    · rw [hat]; exact hk
    · rw [hb]
      intro he
      injection he with he
      omega
  have step : ∀ {q : α} {c : List Value} {o : Nat → Prop}, d.M W base o q c → (∀ k, o k → ok k ∧ some k ≠ v.ownBlock) → d.M w1 base (fun k => ok k ∧ some k ≠ v1.ownBlock) q c := by
    intro q c o hq ho
    have h1 := d.M_move (w1 := w1) (fun k hk => hg.block k hk.2.2.1 (ho k hk.1).2) (d.M_bound hq)
    exact d.M_mono (fun k hk => ⟨(ho k hk.1).1, hne k (ho k hk.1).2 hk.2.2.1⟩) h1
  refine ⟨fun k hk => ?_, inner ++ cs, by rw [List.length_append, List.length_singleton]; exact hown, ?_⟩
  · rcases hat with hat | ⟨b, hb, hle⟩
    · exact h0 k (hat ▸ hk)
    · rw [hb] at hk
      injection hk with hk
      exact hfresh k (by omega)
  · exact (hr.imp_ (fun _ _ hq => step hq (fun _ hk => hk))).snoc (step hp hokp) (d.K_len (d.K_of_M hp))
section
variable {P : Program} {ops : Array Oper} {rest : List Oper} {o : Oper} {a : Act} {Q : Exit → Act → World → Prop} {α : Type}
theorem R_append (d : Kd α) {w0 W : World} (base : Nat) (hgd : o.guard = none) (s x : Operand) (t e : TypeId) (z : Value) (bytes : Nat)
    (ho : o.op = .call { callee := .builtin .append, args := #[s, x], argTypes := #[t, t] })
    (ht : P.underlying t = some (.slice e)) (hinfo : (P.info? e).map (fun i => (i.zero, i.size, i.bytes)) = some (some z, d.sz, bytes)) (hz : z.cells.size = d.sz) (hs0 : 0 < d.sz) (hb0 : 0 < bytes)
    (v : Value) (xs : List α) (p : α) (cs : List Value) (ok okp : Nat → Prop) (hs : a.eval s = v) (hx : a.eval x = .slice (some ⟨W.heap.size, 0, none⟩) 1 1) (hp : d.M W base okp p cs) (hokp : ∀ k, okp k → ok k ∧ some k ≠ v.ownBlock) (hfresh : ∀ k, W.heap.size ≤ k → ok k)
    (HO : d.R e W base ok v xs) (HB : Below base w0 W) (hbase : base ≤ W.heap.size) (hl : (xs.length + 1) * bytes ≤ 140737488355328)
    (h : ∀ v1 w1, d.R e w1 base ok v1 (xs ++ [p]) → Below base w0 w1 → W.grownBy w1 v.ownBlock → (v1.ownBlock = v.ownBlock ∨ ∃ b, v1.ownBlock = some b ∧ W.heap.size ≤ b) → wpList P ops Q rest (a.put o.dst v1) w1) :
    wpList P ops Q (o :: rest) a (W.alloc (.cells cs.toArray e)) := by
  obtain ⟨h0, inner, hown, hr⟩ := HO
  refine print_append_cells base hgd s x t e z d.sz bytes ho ht hinfo hz hs0 hb0 v xs.length inner cs hs hx (d.K_len (d.K_of_M hp)) (d.K_one (d.K_of_M hp)) hown HB hbase hl ?_
  intro v1 w1 hown1 hb1 hg1 hat1
  exact h v1 w1 (R_appended h0 hr hp hokp hfresh hown1 hg1 hat1) hb1 hg1 hat1
end
end Kd
namespace Kd
section
variable {α β : Type} {d : Kd α} {d' : Kd β} {e e' : Nat} {w w1 W : World} {base b b' : Nat} {ok ok' okv oku : Nat → Prop} {v u : Value} {xs : List α} {ys : List β}
theorem R_alloc (h : d.R e w base ok v xs) (o : Obj) : d.R e (w.alloc o) base ok v xs := R_below h (below_alloc (Below.refl _ _) o)
theorem R_drew (h : d.R e w base ok v xs) : d.R e w.drew base ok v xs := R_below h (below_drew (Below.refl _ _))
theorem R_drewN (h : d.R e w base ok v xs) (m : Nat) : d.R e (w.drewN m) base ok v xs := R_below h (pw_below_drewN (Below.refl _ _) m)
theorem C_nil (d : Kd α) (w : World) : d.C w none ([] : List α).length [] := ⟨rfl, by simp, fun h => absurd h (Nat.lt_irrefl 0)⟩
theorem R_reads' {A : Option Addr} {n c : Nat} (h : d.R e w base ok (.slice A n c) xs) : n = xs.length ∧ n ≤ c ∧ d.C w A xs.length xs := by
  obtain ⟨A', c', he, hl, hr⟩ := R_reads h
  injection he with h1 h2 h3
  subst h1
  exact ⟨h2, by omega, hr⟩
end
section
variable {P : Program} {ops : Array Oper} {rest : List Oper} {o : Oper} {a : Act} {Q : Exit → Act → World → Prop}
variable {α : Type}
theorem R_lit (d : Kd α) {w0 W : World} (base e : Nat) (hgd : o.guard = none) {N : Tmp} (_hd : o.dst = some N) {xs : List α} {inner : List Value} {ok okp : Nat → Prop}
    (hrun : (execOp a.eval o).run P W = .ok (.value (.slice (some ⟨W.heap.size, 0, none⟩) xs.length xs.length)) (W.alloc (.cells inner.toArray e)))
    (hrep : Reps (d.M W base okp) d.sz xs inner) (hok : ∀ k, okp k → ok k) (hfresh : ok W.heap.size) (HB : Below base w0 W) (hbase : base ≤ W.heap.size) (hm : xs.length ≤ 9223372036854775807)
    (h : ∀ v1 w1, d.R e w1 base ok v1 xs → Below base w0 w1 → W.grownBy w1 none → (∃ b, v1.ownBlock = some b ∧ W.heap.size ≤ b) → wpList P ops Q rest (a.put o.dst v1) w1) : wpList P ops Q (o :: rest) a W := by
  refine event_run hgd hrun (h _ _ ⟨fun k hk => ?_, inner, ?_, ?_⟩ (HB.alloc hbase _) (World.grownBy_alloc W _ none) ⟨W.heap.size, by simp [Value.ownBlock], Nat.le_refl _⟩)
  · have : W.heap.size = k := by simpa [Value.ownBlock] using hk
    subst this
    exact hfresh
  · have h2 := World.ownsRow_lit (base := base) (e := e) (size := d.sz) W inner.toArray xs.length hbase (by simpa [maxLen] using hm) (by simpa using hrep.1)
    simpa using h2
  · refine hrep.imp_ (fun p c hp => d.M_mono (fun k hk => ⟨hok k hk.1, fun he => ?_⟩) (M_below (d.M_bound hp) (below_alloc (Below.refl _ _) _)))
    have h3 : k = W.heap.size := by simpa [Value.ownBlock] using he
    have := hk.2.2.1
    omega
end
end Kd
section
variable {w w1 : World} {base n size : Nat} {e : TypeId} {v : Value} {xs : List Value}
theorem q_of_own (h : w.ownsRow base e size v n xs) : QRow w base e size v n xs := by
  obtain ⟨h1, h2⟩ := h
  refine ⟨h1, ?_⟩
  rcases h2 with ⟨rfl, h0⟩ | ⟨g, cap, cur, rfl, hb, hh, hnc, hcm, hcs, ht⟩
  · exact .inl ⟨h0, none, rfl, fun a ha => by cases ha⟩
  · exact .inr ⟨g, 0, cap, cur, by rw [Nat.zero_mul], hb, hh, hnc, by rw [Nat.zero_add]; exact hcm, by rw [Nat.zero_add]; exact hcs, by rw [Nat.zero_mul, List.drop_zero]; exact ht⟩
end
namespace Kd
section
variable {α : Type} {d : Kd α} {e : Nat} {w w1 W : World} {base : Nat} {ok ok' : Nat → Prop} {v : Value} {xs : List α}
theorem Q_of_R (h : d.R e w base ok v xs) : d.Q e w base ok v xs := by
  obtain ⟨h0, inner, ho, hr⟩ := h
  exact ⟨h0, inner, q_of_own ho, hr⟩
theorem Q_nil (d : Kd α) (e : Nat) (w : World) (base : Nat) (ok : Nat → Prop) : d.Q e w base ok (.slice none 0 0) [] := Q_of_R (R_nil d e w base ok)
end
end Kd
namespace Kd
section
variable {α : Type} {d : Kd α} {e e' : Nat} {w w1 W : World} {base : Nat} {ok : Nat → Prop} {u v : Value} {xs : List α}
theorem R_typed (h : d.R e w base ok v xs) : ∀ k, v.ownBlock = some k → ∃ cells, w.heap[k]? = some (.cells cells e (0, 0)) := by
  obtain ⟨inner, ho⟩ := R_own h
  exact fun k hk => own_typed ho k hk
theorem R_over' (h : d.R e W base ok u xs) (hty : ∀ k, v.ownBlock = some k → ∃ cells, W.heap[k]? = some (.cells cells e' (0, 0))) (ht : ∀ q, q ∈ e :: d.E → q ≠ e') (hg : W.grownBy w1 v.ownBlock) : d.R e w1 base ok u xs := by
  refine R_mono (R_move (R_bound h) (fun k hk => hg.block k hk.2.2.1 (fun he => ?_))) (fun _ hk => hk.1)
  obtain ⟨_, _, _, q, hq, cells, hc⟩ := hk
  obtain ⟨cells', hc'⟩ := hty k he.symm
  rw [hc] at hc'
  injection hc' with hc'
  injection hc' with _ hc'
  exact ht q hq hc'
end
end Kd
end Go.Proofs.YtclnanhgcnopdaaDoorW.PrintWords
end
section
namespace Go.Proofs.YtclnanhgcnopdaaDoor.Kit
set_option linter.unusedVariables false
set_option linter.unusedSimpArgs false
open Go
variable {P : Program} {ops : Array Oper} {Q : Exit → Act → World → Prop}
theorem wpOp_of_step {i : Nat} {o : Oper} {a A : Act} {w : World} {K : Value → World → Prop} {K' : Act → World → Prop} (ho : ops[i]? = some o)
    (he : execOp A.eval o = execOp a.eval o) (hw : Region.wanted o (yielded ops A.tmps) = Region.wanted o (yielded ops a.tmps))
    (h : StepOk P ops o A w K) (hK : ∀ v w', K v w' → K' (a.put o.dst v) w') : wpOp P ops Q i K' a w := by
  unfold StepOk at h
  rw [he, hw] at h
  unfold wpOp
  rw [ho]
  show if Region.wanted o (yielded ops a.tmps) = true then _ else _
  split
  · rename_i hwa
    rw [if_pos hwa] at h
    refine .inl ?_
    unfold Oper.wp
    generalize (execOp a.eval o).run P w = r at h
    cases r with
    | ok n w' =>
      cases n <;> simp only [StepUpon] at h <;> simp only [Oper.upon]
      case value v => exact hK _ _ h
      case skip => exact hK _ _ h
      case enter f args => exact h.mono fun e w'' he => by obtain ⟨v, rfl, hk⟩ := he; exact hK _ _ hk
    | halt x w' => simp only [StepUpon] at h
  · rename_i hwa
    rw [if_neg hwa] at h
    exact hK _ _ h
end Go.Proofs.YtclnanhgcnopdaaDoor.Kit
end
section
namespace Go.Proofs.YtclnanhgcnopdaaDoorW.PrintLast
section
variable {P : Program} {ops : Array Oper} {Q : Exit → Act → World → Prop} {md : Region.Mode} {S : World → Prop} {ds : List Nat}
theorem enters_ {f : FuncId} {fn : Func} (hf : P.funcs[f]? = some fn) (hname : (fn.name == "runtime.NumGoroutine") = false) (hb : fn.body.isSome = true) (args : Array Value) (w : World) : (callFunc f args).run P w = .ok (.enter f args) w := by
  have h1 : fn.name ≠ "runtime.NumGoroutine" := by simpa using hname
  obtain ⟨c, hc⟩ := Option.isSome_iff_exists.1 hb
  simp [callFunc, hf, h1, hc]
theorem goesL_ {rest : List Oper} {oi : Oper} {a : Act} {w : World} (N : Option Tmp) (hd : oi.dst = N) (hg : oi.guard = none) {f : FuncId} {fn : Func} {as1 : Array Operand} {ts : Array TypeId} (hf : P.funcs[f]? = some fn) (hname : (fn.name == "runtime.NumGoroutine") = false) (hb : fn.body.isSome = true) (args : Array Value)
    (hop : oi.op = .call { callee := .value (.func f), args := as1, argTypes := ts }) (hargs : as1.map a.eval = args)
    (h : Calls P f args w fun e w' => ∃ v, e = .returned v ∧ wpList P ops Q rest (a.put N v) w') : wpList P ops Q (oi :: rest) a w := by
  refine wpList_plain hg fun K hK => ?_
  have he := enters_ hf hname hb args w
  have hrun : (execOp a.eval oi).run P w = .ok (.enter f args) w := by
    unfold execOp
    simp [hop, resolve, Deferred.ofValue, invoke, Act.eval, hargs, he]
  unfold Oper.wp
  rw [hrun, Oper.upon_enter]
  refine h.mono fun e w'' hh => ?_
  obtain ⟨v, rfl, hk⟩ := hh
  subst hd
  exact hK _ _ hk
end
end Go.Proofs.YtclnanhgcnopdaaDoorW.PrintLast
end
section
namespace Go.Proofs.YtclnanhgcnopdaaDoorW.PrintWords
open Go.RowKit
namespace Kd
section
variable {α β : Type} {d : Kd α} {d' : Kd β} {e e' : Nat} {w w1 W : World} {base b : Nat} {ok ok' okv oku : Nat → Prop} {u v : Value} {xs : List α} {ys : List β}
theorem S_nil (d : Kd α) (e : Nat) (w : World) (base : Nat) (ok : Nat → Prop) : S d e w base ok (.slice none 0 0) [] := ⟨fun _ => 0, R_nil _ _ _ _ _⟩
end
end Kd
end Go.Proofs.YtclnanhgcnopdaaDoorW.PrintWords
end
section
namespace Go.Proofs.YtclnanhgcnopdaaDoor.Kit
set_option linter.unusedVariables false
set_option linter.unusedSimpArgs false
open Go Go.RowKit
section
variable {P : Program} {ops : Array Oper} {Q : Exit → Act → World → Prop}
theorem wpAny_tail (hE : depsOk ops = true) {k0 : Nat} (hT : tailOk ops k0 = true) : ∀ (fuel k : Nat) (listed : Array Bool) (a : Act) (w : World), k0 ≤ k → k + fuel = ops.size → listed.size = ops.size →
    (∀ j < ops.size, listed.getD j true = decide (j < k) ∧ listed.getD j false = decide (j < k)) → wpList P ops Q (ops.toList.drop k) a w → wpAny P .any ops Q fuel listed a w := by
  intro fuel
  induction fuel with
  | zero =>
    intro k listed a w hk hs hsz hl h
    have hnil : ops.toList.drop k = [] := List.drop_eq_nil_of_le (by simp; omega)
    rw [hnil] at h
    refine ⟨?_, h⟩
    cases hr : Region.ready .any ops listed with
    | nil => rfl
    | cons j rs =>
      have hj : j ∈ Region.ready .any ops listed := by rw [hr]; simp
      obtain ⟨h0, o, ho, _⟩ := mem_ready.1 hj
      have hjl : j < ops.size := (Array.getElem?_eq_some_iff.1 ho).1
      rw [(hl j hjl).1] at h0
      simp at h0
      omega
  | succ fuel ih =>
    intro k listed a w hk hs hsz hl h
    have hkl : k < ops.size := by omega
    have hok : ops[k]? = some ops[k] := by simp [hkl]
    have hdrop : ops.toList.drop k = ops[k] :: ops.toList.drop (k + 1) := by
      rw [List.drop_eq_getElem_cons (by simpa using hkl)]
      simp
    rw [hdrop] at h
    refine ⟨fun hr => ?_, fun i hi => ?_⟩
    · have hmem : k ∈ Region.ready .any ops listed := by
        refine mem_ready.2 ⟨by rw [(hl k hkl).1]; simp, ops[k], hok, fun e he hb => ?_⟩
        have hlt := (depsOk_spec hE (i := k) (o := ops[k]) hok).1 e he hb
        rw [(hl e.on (by omega)).2]
        simpa using hlt
      rw [hr] at hmem
      cases hmem
    · obtain ⟨h0, o, ho, hafter⟩ := mem_ready.1 hi
      have hil : i < ops.size := (Array.getElem?_eq_some_iff.1 ho).1
      rw [(hl i hil).1] at h0
      have hge : k ≤ i := by simpa using h0
      have hik : i = k := by
        rcases Nat.lt_or_ge k i with hlt | h2
        · obtain ⟨e, he, hp⟩ := List.any_eq_true.1 (tailOk_spec hT ho (by omega) hlt)
          simp only [Bool.and_eq_true] at hp
          have he' : e ∈ o.after := by simpa using he
          have h1 := hafter e he' hp.1
          have h2 := (depsOk_spec hE ho).1 e he' hp.1
          rw [(hl e.on (by omega)).2] at h1
          have h3 := reachB_le hE 4 e.on k hp.2
          have h4 : e.on < k := by simpa using h1
          omega
        · omega
      subst hik
      have hK : ∀ a' w', wpList P ops Q (ops.toList.drop (i + 1)) a' w' → wpAny P .any ops Q fuel (listed.setIfInBounds i true) a' w' := by
        intro a' w' h'
        refine ih (i + 1) _ a' w' (by omega) (by omega) (by simpa using hsz) (fun j hj => ?_) h'
        by_cases hji : j = i
        · subst hji
          simp [hsz ▸ hj]
        · have := hl j hj
          rw [getD_set_ne true (Ne.symm hji), getD_set_ne false (Ne.symm hji), this.1, this.2]
          have : decide (j < i) = decide (j < i + 1) := by
            rcases Nat.lt_or_ge j i with h1 | h1
            · rw [decide_eq_true h1, decide_eq_true (by omega)]
            · rw [decide_eq_false (by omega), decide_eq_false (by omega)]
          exact ⟨this, this⟩
      unfold wpOp
      rw [ho]
      have hoe : o = ops[i] := by rw [hok] at ho; exact (Option.some.inj ho).symm
      subst hoe
      show if Region.wanted ops[i] (yielded ops a.tmps) = true then _ else _
      unfold wpList at h
      split
      · rename_i hw
        rw [if_pos hw] at h
        rcases h with h | h
        · exact .inl (Oper.wp_mono hK h)
        · exact .inr h
      · rename_i hw
        rw [if_neg hw] at h
        exact hK _ _ h
theorem wpAny_split (hB : anyOk ops = true) {k0 : Nat} (hk0 : k0 ≤ ops.size) (hT : tailOk ops k0 = true) (a0 : Act) (C : List Nat → (Nat → Value) → World → Prop)
    (hstep : ∀ i o js vals w, i < k0 → ops[i]? = some o → i ∉ js → (∀ j, waits ops o j = true → j ∈ js) → C js vals w →
      StepOk P ops o (fillL ops vals (List.range k0) a0) w fun v w' => C (js ++ [i]) (Vset vals i v) w')
    (hend : ∀ js vals w, (∀ i < k0, i ∈ js) → C js vals w → wpList P ops Q (ops.toList.drop k0) (fillL ops vals (List.range k0) a0) w) :
    ∀ (fuel : Nat) (js : List Nat) (listed : Array Bool) (vals : Nat → Value) (w : World), js.Nodup → (∀ j ∈ js, j < k0) →
      (∀ j < ops.size, listed.getD j true = decide (j ∈ js) ∧ listed.getD j false = decide (j ∈ js)) → listed.size = ops.size → js.length + fuel = ops.size → Closed ops js → C js vals w →
      wpAny P .any ops Q fuel listed (fillL ops vals js a0) w := by
  have hB' := hB
  simp only [anyOk, Bool.and_eq_true] at hB
  obtain ⟨hS, hD, hE⟩ := hB
  have fin : ∀ (fuel : Nat) (js : List Nat) (listed : Array Bool) (vals : Nat → Value) (w : World), js.Nodup → (∀ j ∈ js, j < k0) → (∀ i < k0, i ∈ js) →
      (∀ j < ops.size, listed.getD j true = decide (j ∈ js) ∧ listed.getD j false = decide (j ∈ js)) → listed.size = ops.size → js.length + fuel = ops.size → C js vals w → wpAny P .any ops Q fuel listed (fillL ops vals js a0) w := by
    intro fuel js listed vals w hn hlt hall hl hsz hc hC
    have hp : js.Perm (List.range k0) := (List.perm_ext_iff_of_nodup hn List.nodup_range).2 fun j => ⟨fun h => List.mem_range.2 (hlt j h), fun h => hall j (List.mem_range.1 h)⟩
    have hlen : js.length = k0 := by rw [hp.length_eq]; simp
    rw [fillL_perm hD vals hp hn (fun j hj => Nat.lt_of_lt_of_le (hlt j hj) hk0) a0]
    refine wpAny_tail hE hT fuel k0 listed _ w (Nat.le_refl _) (by omega) hsz (fun j hj => ?_) (hend js vals w hall hC)
    have e : decide (j ∈ js) = decide (j < k0) := by
      by_cases h : j < k0
      · rw [decide_eq_true h, decide_eq_true (hall j h)]
      · rw [decide_eq_false h, decide_eq_false (fun h' => h (hlt j h'))]
    rw [← e]
    exact hl j hj
  intro fuel
  induction fuel with
  | zero =>
    intro js listed vals w hn hlt hl hsz hc hcl hC
    refine fin 0 js listed vals w hn hlt (fun i hi => ?_) hl hsz hc hC
    apply Classical.byContradiction
    intro hni
    have h1 := nodup_len (i :: js) (List.range k0) (List.nodup_cons.2 ⟨hni, hn⟩) (fun j hj => by
      rcases List.mem_cons.1 hj with rfl | h
      · exact List.mem_range.2 hi
      · exact List.mem_range.2 (hlt j h))
    simp at h1
    omega
  | succ fuel ih =>
    intro js listed vals w hn hlt hl hsz hc hcl hC
    by_cases hall : ∀ i < k0, i ∈ js
    · exact fin (fuel + 1) js listed vals w hn hlt hall hl hsz hc hC
    have hlt' : ∀ j ∈ js, j < ops.size := fun j hj => Nat.lt_of_lt_of_le (hlt j hj) hk0
    refine ⟨fun hr => ?_, fun i hi => ?_⟩
    · exfalso
      apply hall
      intro i
      induction i using Nat.strongRecOn with
      | _ i ihi =>
        intro hi
        apply Classical.byContradiction
        intro hni
        have his : i < ops.size := by omega
        have hmem : i ∈ Region.ready .any ops listed := by
          refine mem_ready.2 ⟨by rw [(hl i his).1]; simpa using hni, ops[i], by simp [his], fun e he hb => ?_⟩
          have hlt := (depsOk_spec hE (i := i) (o := ops[i]) (by simp [his])).1 e he hb
          rw [(hl e.on (by omega)).2]
          simpa using ihi e.on hlt (by omega)
        rw [hr] at hmem
        cases hmem
    · obtain ⟨h0, o, ho, hafter⟩ := mem_ready.1 hi
      have hil : i < ops.size := (Array.getElem?_eq_some_iff.1 ho).1
      rw [(hl i hil).1] at h0
      have hni : i ∉ js := by simpa using h0
      have hdeps : ∀ e ∈ o.after, Region.binds .any e = true → e.on ∈ js := fun e he hb => by
        have h1 := hafter e he hb
        have hlt' := (depsOk_spec hE ho).1 e he hb
        rw [(hl e.on (by omega)).2] at h1
        simpa using h1
      have hik : i < k0 := by
        rcases Nat.lt_or_ge i k0 with h | h
        · exact h
        · exfalso
          apply hall
          intro j hj
          obtain ⟨e, he, hp⟩ := List.any_eq_true.1 (tailOk_spec hT ho h (show j < i by omega))
          simp only [Bool.and_eq_true] at hp
          exact reachB_mem hcl 4 e.on j (hdeps e (by simpa using he) hp.1) hp.2
      have hsel : ∀ cs b, o.op ≠ .select cs b := fun cs b => Region.noSelect_spec hS i o cs b ho
      obtain ⟨rest, hrest⟩ : ∃ rest, rest = (List.range k0).filter fun j => decide (j ∉ js) := ⟨_, rfl⟩
      have hperm : (js ++ rest).Perm (List.range k0) := by
        refine (List.perm_ext_iff_of_nodup ?_ List.nodup_range).2 fun j => ?_
        · rw [List.nodup_append]
          refine ⟨hn, by rw [hrest]; exact List.nodup_range.filter _, fun x hx y hy e => ?_⟩
          subst e
          rw [hrest] at hy
          simp at hy
          exact hy.2 hx
        · rw [List.mem_append, hrest]
          simp only [List.mem_filter, List.mem_range, decide_eq_true_eq]
          constructor
          · rintro (h | h)
            · exact hlt j h
            · exact h.1
          · intro h
            by_cases hj : j ∈ js
            · exact .inl hj
            · exact .inr ⟨h, hj⟩
      have hnd : (js ++ rest).Nodup := hperm.nodup_iff.2 List.nodup_range
      have hrlt : ∀ j ∈ js ++ rest, j < ops.size := fun j hj => Nat.lt_of_lt_of_le (List.mem_range.1 (hperm.mem_iff.1 hj)) hk0
      have hwhole : fillL ops vals (List.range k0) a0 = fillL ops vals rest (fillL ops vals js a0) := by
        rw [← fillL_perm hD vals hperm hnd hrlt a0, fillL_append]
      obtain ⟨he, hw⟩ := exec_fill (ops := ops) o hsel vals rest (fun j hj d hd hmem => by
        have hjr : j < k0 ∧ j ∉ js := by rw [hrest] at hj; simpa using hj
        obtain ⟨e, he, hb, heq⟩ := (depsOk_spec hE ho).2 j (by omega) d hd hmem
        exact hjr.2 (heq ▸ hdeps e he hb)) (fillL ops vals js a0)
      rw [← hwhole] at he hw
      have hwaits : ∀ j, waits ops o j = true → j ∈ js := fun j hj => by
        obtain ⟨e, he, hp⟩ := List.any_eq_true.1 hj
        simp only [Bool.and_eq_true] at hp
        exact reachB_mem hcl 4 e.on j (hdeps e (by simpa using he) hp.1) hp.2
      refine wpOp_of_step ho he hw (hstep i o js vals w hik ho hni hwaits hC) fun v w' hK => ?_
      have hdst : o.dst = dstOf ops i := by simp [dstOf, ho]
      have hnext : (fillL ops vals js a0).put o.dst v = fillL ops (Vset vals i v) (js ++ [i]) a0 := by
        rw [fillL_append, fillL_vset vals i v js hni, hdst]
        show _ = (fillL ops vals js a0).put (dstOf ops i) (Vset vals i v i)
        rw [Vset_same]
      rw [hnext]
      refine ih (js ++ [i]) (listed.setIfInBounds i true) (Vset vals i v) w' ?_ ?_ ?_ (by simpa using hsz) (by simp; omega) ?_ hK
      · rw [List.nodup_append]
        refine ⟨hn, by simp, fun x hx y hy e => ?_⟩
        simp at hy
        subst hy
        exact hni (e ▸ hx)
      · intro j hj
        rcases List.mem_append.1 hj with h | h
        · exact hlt j h
        · simp at h; omega
      · intro j hj
        by_cases hji : j = i
        · subst hji
          simp [hsz ▸ hj]
        · have := hl j hj
          rw [getD_set_ne true (Ne.symm hji), getD_set_ne false (Ne.symm hji)]
          simpa [hji] using this
      · intro j hj o' ho' e he hb
        rcases List.mem_append.1 hj with h | h
        · exact List.mem_append_left _ (hcl j h o' ho' e he hb)
        · simp at h
          subst h
          rw [ho] at ho'
          cases ho'
          exact List.mem_append_left _ (hdeps e he hb)
theorem wp_region_walk (k : Nat) {id : Nat} {l : List Oper} {a0 : Act} {w0 : World} (hm : P.follows .mixedOrders = true) (hB : anyOk l.toArray = true) (hk : decide (k ≤ l.length) = true) (hT : tailOk l.toArray k = true) (I : World → Prop) (Rel : World → World → Prop) (D : Nat → List Nat) (F : Nat → (Nat → Value) → World → Prop)
    (hD : ((List.range k).all fun i => match l[i]? with | none => true | some o => (D i).all fun d => waits l.toArray o d) = true)
    (hW : ∀ i vals w w', F i vals w → Rel w w' → F i vals w') (hV : ∀ i vals vals' w, vals' i = vals i → (∀ d ∈ D i, vals' d = vals d) → F i vals w → F i vals' w) (h0 : I w0.drew)
    (h : ∀ vals A, A = fillL l.toArray vals (List.range k) a0 →
      eachFrom (fun i o => ∀ w, (∀ j, waits l.toArray o j = true → F j vals w) → I w → StepOk P l.toArray o A w fun v w' => I w' ∧ Rel w w' ∧ ∀ vals', vals' i = v → (∀ d ∈ D i, vals' d = vals d) → F i vals' w') 0 (l.take k) ∧
      ∀ w, (∀ i < k, F i vals w) → I w → wpList P l.toArray Q (l.drop k) A w) :
    (Code.region id l.toArray true).wp P Q a0 w0 := by
  have hk' : k ≤ l.length := of_decide_eq_true hk
  have hDs : ∀ i o, i < k → l[i]? = some o → ∀ d ∈ D i, waits l.toArray o d = true := by
    intro i o hi ho d hd
    have h1 := List.all_eq_true.1 hD i (List.mem_range.2 hi)
    rw [ho] at h1
    exact List.all_eq_true.1 h1 d hd
  refine wp_region_any hm ?_
  have key := wpAny_split (P := P) (Q := Q) hB (k0 := k) (by simpa using hk') hT a0 (fun js vals w => I w ∧ ∀ j ∈ js, (∀ d ∈ D j, d ∈ js) ∧ F j vals w) ?_ ?_ l.toArray.size [] (Array.replicate l.toArray.size false) (fun _ => undef) w0.drew List.nodup_nil (by simp) (by intro j hj; have hj2 : j < l.length := (by simpa using hj); simp [hj2]) (by simp) (by simp) (fun j hj => by cases hj) ⟨h0, by simp⟩
  · exact key
  · intro i o js vals w hik ho hni hdeps hC
    have ho' : l[i]? = some o := by simpa using ho
    have h1 := eachFrom_spec (h vals _ rfl).1 i o (by rw [List.getElem?_take, if_pos hik]; exact ho') w (fun j hj => (hC.2 _ (hdeps j hj)).2) hC.1
    rw [Nat.zero_add] at h1
    have hdi : ∀ d ∈ D i, d ∈ js := fun d hd => hdeps d (hDs i o hik ho' d hd)
    have hdi' : ∀ d ∈ D i, d ≠ i := fun d hd e => hni (e ▸ hdi d hd)
    have mono : ∀ {v w'}, (I w' ∧ Rel w w' ∧ ∀ vals', vals' i = v → (∀ d ∈ D i, vals' d = vals d) → F i vals' w') → (I w' ∧ ∀ j ∈ js ++ [i], (∀ d ∈ D j, d ∈ js ++ [i]) ∧ F j (Vset vals i v) w') := by
      rintro v w' ⟨hI, hR, hFi⟩
      refine ⟨hI, fun j hj => ?_⟩
      by_cases hji : j = i
      · subst hji
        exact ⟨fun d hd => List.mem_append_left _ (hdi d hd), hFi _ (Vset_same _ _ _) (fun d hd => Vset_other _ _ (hdi' d hd))⟩
      · rcases List.mem_append.1 hj with h | h
        · obtain ⟨h2, h3⟩ := hC.2 j h
          exact ⟨fun d hd => List.mem_append_left _ (h2 d hd), hV j vals _ w' (Vset_other _ _ hji) (fun d hd => Vset_other _ _ (fun e => hni (e ▸ h2 d hd))) (hW _ _ _ _ h3 hR)⟩
        · simp at h; exact absurd h hji
    unfold StepOk at h1 ⊢
    split
    · rename_i hw
      rw [if_pos hw] at h1
      generalize (execOp (fillL l.toArray vals (List.range k) a0).eval o).run P w = r at h1 ⊢
      cases r with
      | ok n w' =>
        cases n <;> simp only [StepUpon] at h1 ⊢
        case value u => exact mono h1
        case skip => exact mono h1
        case enter f args => exact h1.mono fun e w'' he => by obtain ⟨v, rfl, hk⟩ := he; exact ⟨v, rfl, mono hk⟩
      | halt x w' => simp only [StepUpon] at h1
    · rename_i hw
      rw [if_neg hw] at h1
      exact mono h1
  · intro js vals w hall hC
    exact (h vals _ rfl).2 w (fun i hi => (hC.2 i (hall i hi)).2) hC.1
end
end Go.Proofs.YtclnanhgcnopdaaDoor.Kit
end
section
namespace Go.Proofs.YtclnanhgcnopdaaDoor.Kit
set_option linter.unusedVariables false
set_option linter.unusedSimpArgs false
open Go Go.RowKit
section
variable {P : Program} {Q : Exit → Act → World → Prop}
variable {ops : Array Oper} {A : Act} {w : World} {o : Oper} {fa : Fact}
theorem st_read {W0 : World} {bs : Res} {x : Operand} {T : TypeId} {ad : Addr} {v : Value} (HO : Mine W0 w bs) (hg : Region.wanted o (yielded ops A.tmps) = true) (ho : o.op = .load T x) (hx : A.eval x = .pointer (some ad)) (hc : W0.cell? ad = some v)
    (hagg : ∀ w, (isAgg T).run P w = .ok false w) (hf : fa v w) : StepOk P ops o A w fun v w' => Below w.heap.size w w' ∧ fa v w' := by
  have hc' := (HO.below.cell (World.block_lt_of_cell? W0 _ hc)).trans hc
  have hr : (loadVar T ad).run P w = .ok v w := by simp [loadVar, Sem.run_bind, hagg, load, Sem.run, hc']
  exact st_val hg (by simp only [execOp, ho, hx, Instr.loadAt, Instr.sureAddr, Sem.run_bind, Sem.run_pure, Result.andThen_ok, hr]) hf
end
end Go.Proofs.YtclnanhgcnopdaaDoor.Kit
end
section
namespace Go.Proofs.YtclnanhgcnopdaaDoor
set_option linter.unusedVariables false
set_option linter.unusedSimpArgs false
theorem nextF_range {n : Int} {c : UInt8} (h0 : 0 ≤ n) (hf : figU c = true) : 0 ≤ nextF n c ∧ nextF n c ≤ 1114111 := by
  simp only [figU, Bool.and_eq_true, decide_eq_true_eq] at hf
  unfold nextF
  omega
theorem TakeAt.step {l : List UInt8} {k : Nat} {n : Int} (h : TakeAt l k n) (hk : k < l.length) (hf : figU (l[k]?.getD 0) = true) : TakeAt l (k + 1) (nextF n (l[k]?.getD 0)) := by
  obtain ⟨h1, h2, h3⟩ := h
  refine ⟨?_, (nextF_range h2 hf).1, (nextF_range h2 hf).2⟩
  rw [h1, drop_at l hk]
  simp only [takeF, hf, if_true]
  simp only [Prod.mk.injEq, true_and]
  omega
end Go.Proofs.YtclnanhgcnopdaaDoor
end
section
namespace Go.Proofs.YtclnanhgcnopdaaDoorW.PrintWords
open Go.RowKit
theorem heap_lt {W W1 : World} {k : Nat} (h : W1.heap[k]? = W.heap[k]?) (hlt : k < W.heap.size) : k < W1.heap.size := by
  rw [Array.getElem?_eq_getElem hlt] at h
  exact (Array.getElem?_eq_some_iff.1 h).1
namespace Foot
variable {P Q : World → Prop} {W W1 : World} {ok ok' : Nat → Prop}
theorem step (h : Foot P W ok) (hm : ∀ k, ok k → k < W.heap.size → W1.heap[k]? = W.heap[k]?) : Foot P W1 ok := fun W' hW => h W' (fun k hk hlt => (hW k hk (heap_lt (hm k hk hlt) hlt)).trans (hm k hk hlt))
end Foot
namespace Kd
section
variable {α β : Type} {d : Kd α} {e base n n' cc g N : Nat} {ok ok' okp S : Nat → Prop} {w w0 w1 W W1 : World} {A A' : Option Addr} {u v v1 : Value} {xs : List α} {xs' : List β} {d' : Kd β} {x : α} {c : List Value}
theorem F_nil (d : Kd α) (W : World) (ok : Nat → Prop) : F d W ok none ([] : List α).length [] := fun W' _ => C_nil d W'
theorem FK_of_M (h : d.M W base ok x c) : FK d W ok x c := fun _ hW => d.K_of_M (M_step h hW)
end
end Kd
end Go.Proofs.YtclnanhgcnopdaaDoorW.PrintWords
end
section
namespace Go.Proofs.YtclnanhgcnopdaaDoorW.PrintWords
open Go.RowKit
namespace Kd
def chunks (sz : Nat) (n : Nat) (inner : List Value) : List (List Value) := (List.range n).map fun j => (inner.drop (j * sz)).take sz
theorem chunks_length (sz n : Nat) (inner : List Value) : (chunks sz n inner).length = n := by simp [chunks]
theorem chunks_at {sz n : Nat} {inner : List Value} {j : Nat} (hj : j < n) : (chunks sz n inner)[j]? = some ((inner.drop (j * sz)).take sz) := by simp [chunks, hj]
theorem chunks_get {sz n : Nat} {inner : List Value} {j : Nat} {c : List Value} (h : (chunks sz n inner)[j]? = some c) : c = (inner.drop (j * sz)).take sz := by
  have hj : j < n := by have := (List.getElem?_eq_some_iff.1 h).1; rwa [chunks_length] at this
  rw [chunks_at hj] at h
  injection h with h
  exact h.symm
theorem reps_raw {α : Type} {Rr : α → List Value → Prop} {sz : Nat} {xs : List α} {inner : List Value} (h : Reps Rr sz xs inner) (hR : ∀ x c, Rr x c → c.length = sz ∧ ∀ u ∈ c, u.oneCell' = true) : Reps (fun x cs => cs = x ∧ cs.length = sz ∧ ∀ u ∈ cs, u.oneCell' = true) sz (chunks sz xs.length inner) inner := by
  refine ⟨by rw [chunks_length]; exact h.1, fun j p hj => ?_⟩
  have hjl : j < xs.length := by have := (List.getElem?_eq_some_iff.1 hj).1; rwa [chunks_length] at this
  have hp := chunks_get hj
  exact ⟨hp.symm, hR _ _ (h.2 j _ (List.getElem?_eq_getElem hjl))⟩
section
variable {α : Type} {d : Kd α} {e base n cc g : Nat} {ok ok' okp S : Nat → Prop} {w w1 W W1 : World} {A : Option Addr} {u v v1 : Value} {xs : List α} {x : α} {c : List Value}
theorem R_N (h : d.R e w base ok v xs) : N d e w base ok v xs := by
  obtain ⟨h0, inner, ho, hr⟩ := h
  refine ⟨h0, chunks d.sz xs.length inner, chunks_length _ _ _, ⟨fun k hk => hk.symm, inner, by rw [chunks_length]; exact ho, reps_raw hr (fun x c hp => ⟨d.K_len (d.K_of_M hp), d.K_one (d.K_of_M hp)⟩)⟩, fun j x c hx hc => ?_⟩
  rw [chunks_get hc]
  exact FK_of_M (hr.2 j x hx)
theorem N_nil (d : Kd α) (e : Nat) (w : World) (base : Nat) (ok : Nat → Prop) : N d e w base ok (.slice none 0 0) [] := R_N (R_nil _ _ _ _ _)
end
end Kd
end Go.Proofs.YtclnanhgcnopdaaDoorW.PrintWords
end
section
namespace Go.Proofs.YtclnanhgcnopdaaDoorW.PrintWords
open Go.RowKit
theorem Kd.R_slice1 {α : Type} {d : Kd α} {e base : Nat} {ok : Nat → Prop} {w : World} {v : Value} {xs : List α} (h : d.R e w base ok v xs) (hn : 0 < xs.length) : ∃ (ad : Addr) (c : Nat), v = .slice (some ad) xs.length c := by
  obtain ⟨A, c, rfl⟩ := Kd.R_slice h
  have h2 := (Kd.R_reads' h).2.2
  obtain ⟨ad, he, _⟩ := h2.2.2 hn
  subst he
  exact ⟨ad, c, rfl⟩
end Go.Proofs.YtclnanhgcnopdaaDoorW.PrintWords
end
section
open Go.RowKit Go.Proofs.YtclnanhgcnopdaaDoorW.PrintWords
open Go.Proofs.YtclnanhgcnopdaaDoorW.PrintWords.Kd
open Go.Proofs.YtclnanhgcnopdaaDoorW.PrintWords.Kd
namespace Go.Proofs.YtclnanhgcnopdaaDoorW.PrintWords
open Go.RowKit
section
variable {P : Program} {ops : Array Oper} {rest : List Oper} {o : Oper} {a : Act} {Q : Exit → Act → World → Prop} {W : World}
theorem gate_callee {f : FuncId} {as1 : Array Operand} {ts : Array TypeId} (_ho : o.op = .call { callee := .value (.func f), args := as1, argTypes := ts }) (h : wpList P ops Q (o :: rest) a W) : wpList P ops Q (o :: rest) a W := h
theorem gate_builtin {b : Builtin} {xs : Array Operand} {ts : Array TypeId} (_ho : o.op = .call { callee := .builtin b, args := xs, argTypes := ts }) (h : wpList P ops Q (o :: rest) a W) : wpList P ops Q (o :: rest) a W := h
end
end Go.Proofs.YtclnanhgcnopdaaDoorW.PrintWords
namespace Go.Proofs.YtclnanhgcnopdaaDoorW.PrintWords
open Go.RowKit
namespace Kd
def V {α : Type} (d : Kd α) (_e : Nat) (W : World) (_base : Nat) (ok : Nat → Prop) (v : Value) (xs : List α) : Prop := ∃ A c, v = .slice A xs.length c ∧ xs.length ≤ c ∧ F d W ok A xs.length xs
section
variable {α β : Type} {d : Kd α} {e base base' n m c g N' lo hi : Nat} {ok ok' S : Nat → Prop} {w W w1 : World} {A : Option Addr} {ad : Addr} {u v v1 : Value} {xs : List α}
theorem V_nil (d : Kd α) (e : Nat) (W : World) (base : Nat) (ok : Nat → Prop) : V d e W base ok (.slice none 0 0) [] := ⟨none, 0, rfl, Nat.le_refl _, F_nil d W ok⟩
end
end Kd
end Go.Proofs.YtclnanhgcnopdaaDoorW.PrintWords
end
section
namespace Go.Proofs.YtclnanhgcnopdaaDoor.G
open Go.RowKit Go.Proofs.YtclnanhgcnopdaaDoorW.PrintWords Go.Proofs.YtclnanhgcnopdaaDoorW.PrintLast Go.Proofs.YtclnanhgcnopdaaDoorW.PrintMore
attribute [local go_sem] max2_int min2_int max_two min_two max_three min_three max_four min_four
set_option linter.unusedVariables false
set_option linter.unusedSimpArgs false
theorem info9 : (Tryd.prog.info? 9).map (fun i => (i.zero, i.size, i.bytes)) = some (some (.string ⟨#[]⟩), 1, 16) := by kernel_rfl
structure S50 where
  f0 : ByteArray
  f1 : ByteArray
def z50 : S50 := ⟨(⟨#[]⟩ : ByteArray), (⟨#[]⟩ : ByteArray)⟩
def k50 : Kd S50 := Kd.iso (Kd.pair Kd.string Kd.string) (fun x : S50 => (x.f0, x.f1))
theorem k50_open {w : World} {x : S50} {cs : List Value} (h : k50.K w x cs) : cs = [.string x.f0, .string x.f1] := by
  obtain ⟨_, _, rfl, rfl, rfl⟩ := h
  exact rfl
theorem k50_mkM (w : World) (base : Nat) (ok : Nat → Prop) (x : S50)  : k50.M w base ok x [.string x.f0, .string x.f1] := ⟨[.string x.f0], [.string x.f1], rfl, rfl, rfl⟩
def rd_T50 (xs : List S50) (i : Int) : S50 := xs.getD i.toNat z50
theorem at_T50 {w : World} {A : Option Addr} {n : Nat} {xs : List S50} (h : Kd.C k50 w A n xs) (i : Int) (h0 : 0 ≤ i) (h1 : i < n) : ∃ ad , A = some ad ∧ w.cell? (ad.add (i.toNat * 2)) = some (.string (rd_T50 xs i).f0) ∧ w.cell? ⟨(ad.add (i.toNat * 2)).block, (ad.add (i.toNat * 2)).off + 1, none⟩ = some (.string (rd_T50 xs i).f1) := by
  obtain ⟨ad, c, e, _, hK, hc0⟩ := Kd.C_get h z50 i h0 h1
  have hc : ∀ j u, c[j]? = some u → w.cell? (ad.add (i.toNat * 2 + j)) = some u := hc0
  obtain rfl := k50_open hK
  exact ⟨ad, e, hc 0 _ rfl, by rw [← add_field _ _ 1 (by omega)]; exact hc 1 _ rfl⟩
end Go.Proofs.YtclnanhgcnopdaaDoor.G
end
section
namespace Go.Proofs.YtclnanhgcnopdaaDoor.G
open Go.RowKit Go.Proofs.YtclnanhgcnopdaaDoorW.PrintWords Go.Proofs.YtclnanhgcnopdaaDoorW.PrintLast Go.Proofs.YtclnanhgcnopdaaDoorW.PrintMore
attribute [local go_sem] max2_int min2_int max_two min_two max_three min_three max_four min_four
set_option linter.unusedVariables false
set_option linter.unusedSimpArgs false
def clavierref20_all.f  : Option ((List (S50))) := some (([(⟨(⟨#[67, 111]⟩ : ByteArray), (⟨#[50, 53, 54]⟩ : ByteArray)⟩ : S50), (⟨(⟨#[82, 71, 66]⟩ : ByteArray), (⟨#[56]⟩ : ByteArray)⟩ : S50), (⟨(⟨#[84, 78]⟩ : ByteArray), (⟨#[99, 108, 97, 118, 105, 101, 114]⟩ : ByteArray)⟩ : S50), (⟨(⟨#[99, 111, 108, 111, 114, 115]⟩ : ByteArray), (⟨#[50, 53, 54]⟩ : ByteArray)⟩ : S50), (⟨(⟨#[107, 98, 115]⟩ : ByteArray), (⟨#[127]⟩ : ByteArray)⟩ : S50), (⟨(⟨#[107, 99, 117, 98, 49]⟩ : ByteArray), (⟨#[27, 79, 68]⟩ : ByteArray)⟩ : S50), (⟨(⟨#[107, 99, 117, 100, 49]⟩ : ByteArray), (⟨#[27, 79, 66]⟩ : ByteArray)⟩ : S50), (⟨(⟨#[107, 99, 117, 102, 49]⟩ : ByteArray), (⟨#[27, 79, 67]⟩ : ByteArray)⟩ : S50), (⟨(⟨#[107, 99, 117, 117, 49]⟩ : ByteArray), (⟨#[27, 79, 65]⟩ : ByteArray)⟩ : S50), (⟨(⟨#[107, 100, 99, 104, 49]⟩ : ByteArray), (⟨#[27, 91, 51, 126]⟩ : ByteArray)⟩ : S50), (⟨(⟨#[107, 102, 49]⟩ : ByteArray), (⟨#[27, 79, 80]⟩ : ByteArray)⟩ : S50), (⟨(⟨#[110, 97, 109, 101]⟩ : ByteArray), (⟨#[99, 108, 97, 118, 105, 101, 114]⟩ : ByteArray)⟩ : S50)] : List (S50)))
set_option maxHeartbeats 8000000 in
set_option maxRecDepth 100000 in
theorem clavierref20_all.calls  (r : List (S50)) (w : World) (h : clavierref20_all.f  = some r) :
    Calls Tryd.prog 20 #[] w fun e w' => ∃ v0_ : Value, e = .returned (v0_) ∧ Kd.R k50 50 w' w.heap.size (fun _ => True) v0_ r ∧ Below w.heap.size w w' := by
  have hu50 := Tryd.underlying50
  have HB := Aside0.mk (Below.refl w.heap.size w)
  have H : (some (([(⟨(⟨#[67, 111]⟩ : ByteArray), (⟨#[50, 53, 54]⟩ : ByteArray)⟩ : S50), (⟨(⟨#[82, 71, 66]⟩ : ByteArray), (⟨#[56]⟩ : ByteArray)⟩ : S50), (⟨(⟨#[84, 78]⟩ : ByteArray), (⟨#[99, 108, 97, 118, 105, 101, 114]⟩ : ByteArray)⟩ : S50), (⟨(⟨#[99, 111, 108, 111, 114, 115]⟩ : ByteArray), (⟨#[50, 53, 54]⟩ : ByteArray)⟩ : S50), (⟨(⟨#[107, 98, 115]⟩ : ByteArray), (⟨#[127]⟩ : ByteArray)⟩ : S50), (⟨(⟨#[107, 99, 117, 98, 49]⟩ : ByteArray), (⟨#[27, 79, 68]⟩ : ByteArray)⟩ : S50), (⟨(⟨#[107, 99, 117, 100, 49]⟩ : ByteArray), (⟨#[27, 79, 66]⟩ : ByteArray)⟩ : S50), (⟨(⟨#[107, 99, 117, 102, 49]⟩ : ByteArray), (⟨#[27, 79, 67]⟩ : ByteArray)⟩ : S50), (⟨(⟨#[107, 99, 117, 117, 49]⟩ : ByteArray), (⟨#[27, 79, 65]⟩ : ByteArray)⟩ : S50), (⟨(⟨#[107, 100, 99, 104, 49]⟩ : ByteArray), (⟨#[27, 91, 51, 126]⟩ : ByteArray)⟩ : S50), (⟨(⟨#[107, 102, 49]⟩ : ByteArray), (⟨#[27, 79, 80]⟩ : ByteArray)⟩ : S50), (⟨(⟨#[110, 97, 109, 101]⟩ : ByteArray), (⟨#[99, 108, 97, 118, 105, 101, 114]⟩ : ByteArray)⟩ : S50)] : List (S50)))) = some r := h
  clear h
  obtain ⟨y119, hy119⟩ : ∃ y_ : List (S50), y_ = (([(⟨(⟨#[67, 111]⟩ : ByteArray), (⟨#[50, 53, 54]⟩ : ByteArray)⟩ : S50), (⟨(⟨#[82, 71, 66]⟩ : ByteArray), (⟨#[56]⟩ : ByteArray)⟩ : S50), (⟨(⟨#[84, 78]⟩ : ByteArray), (⟨#[99, 108, 97, 118, 105, 101, 114]⟩ : ByteArray)⟩ : S50), (⟨(⟨#[99, 111, 108, 111, 114, 115]⟩ : ByteArray), (⟨#[50, 53, 54]⟩ : ByteArray)⟩ : S50), (⟨(⟨#[107, 98, 115]⟩ : ByteArray), (⟨#[127]⟩ : ByteArray)⟩ : S50), (⟨(⟨#[107, 99, 117, 98, 49]⟩ : ByteArray), (⟨#[27, 79, 68]⟩ : ByteArray)⟩ : S50), (⟨(⟨#[107, 99, 117, 100, 49]⟩ : ByteArray), (⟨#[27, 79, 66]⟩ : ByteArray)⟩ : S50), (⟨(⟨#[107, 99, 117, 102, 49]⟩ : ByteArray), (⟨#[27, 79, 67]⟩ : ByteArray)⟩ : S50), (⟨(⟨#[107, 99, 117, 117, 49]⟩ : ByteArray), (⟨#[27, 79, 65]⟩ : ByteArray)⟩ : S50), (⟨(⟨#[107, 100, 99, 104, 49]⟩ : ByteArray), (⟨#[27, 91, 51, 126]⟩ : ByteArray)⟩ : S50), (⟨(⟨#[107, 102, 49]⟩ : ByteArray), (⟨#[27, 79, 80]⟩ : ByteArray)⟩ : S50), (⟨(⟨#[110, 97, 109, 101]⟩ : ByteArray), (⟨#[99, 108, 97, 118, 105, 101, 114]⟩ : ByteArray)⟩ : S50)] : List (S50))) := ⟨_, rfl⟩
  replace H : (some y119) = some r := by first | (rw [hy119]; with_reducible exact H) | (have H2_ := (Option.bind_some _ _).symm.trans H; rw [hy119]; with_reducible exact H2_) | (have H2_ := (Option.bind_some _ _).symm.trans H; with_reducible exact H2_) | with_reducible exact H | (rw [hy119]; exact H) | exact H
  have Ny119 := Aside0.mk hy119
  clear hy119
  obtain rfl := Option.some.inj H
  go_enter Tryd.func20, Tryd.ntmps20
  go_wp2_with (first | ((with_reducible refine gate_dst (N := 13) rfl ?_); refine Kd.R_lit k50 _ 50 ?hg (N := 13) ?hd (xs := ([(⟨(⟨#[67, 111]⟩ : ByteArray), (⟨#[50, 53, 54]⟩ : ByteArray)⟩ : S50), (⟨(⟨#[82, 71, 66]⟩ : ByteArray), (⟨#[56]⟩ : ByteArray)⟩ : S50), (⟨(⟨#[84, 78]⟩ : ByteArray), (⟨#[99, 108, 97, 118, 105, 101, 114]⟩ : ByteArray)⟩ : S50), (⟨(⟨#[99, 111, 108, 111, 114, 115]⟩ : ByteArray), (⟨#[50, 53, 54]⟩ : ByteArray)⟩ : S50), (⟨(⟨#[107, 98, 115]⟩ : ByteArray), (⟨#[127]⟩ : ByteArray)⟩ : S50), (⟨(⟨#[107, 99, 117, 98, 49]⟩ : ByteArray), (⟨#[27, 79, 68]⟩ : ByteArray)⟩ : S50), (⟨(⟨#[107, 99, 117, 100, 49]⟩ : ByteArray), (⟨#[27, 79, 66]⟩ : ByteArray)⟩ : S50), (⟨(⟨#[107, 99, 117, 102, 49]⟩ : ByteArray), (⟨#[27, 79, 67]⟩ : ByteArray)⟩ : S50), (⟨(⟨#[107, 99, 117, 117, 49]⟩ : ByteArray), (⟨#[27, 79, 65]⟩ : ByteArray)⟩ : S50), (⟨(⟨#[107, 100, 99, 104, 49]⟩ : ByteArray), (⟨#[27, 91, 51, 126]⟩ : ByteArray)⟩ : S50), (⟨(⟨#[107, 102, 49]⟩ : ByteArray), (⟨#[27, 79, 80]⟩ : ByteArray)⟩ : S50), (⟨(⟨#[110, 97, 109, 101]⟩ : ByteArray), (⟨#[99, 108, 97, 118, 105, 101, 114]⟩ : ByteArray)⟩ : S50)] : List (S50))) (inner := [.string (⟨#[67, 111]⟩ : ByteArray), .string (⟨#[50, 53, 54]⟩ : ByteArray), .string (⟨#[82, 71, 66]⟩ : ByteArray), .string (⟨#[56]⟩ : ByteArray), .string (⟨#[84, 78]⟩ : ByteArray), .string (⟨#[99, 108, 97, 118, 105, 101, 114]⟩ : ByteArray), .string (⟨#[99, 111, 108, 111, 114, 115]⟩ : ByteArray), .string (⟨#[50, 53, 54]⟩ : ByteArray), .string (⟨#[107, 98, 115]⟩ : ByteArray), .string (⟨#[127]⟩ : ByteArray), .string (⟨#[107, 99, 117, 98, 49]⟩ : ByteArray), .string (⟨#[27, 79, 68]⟩ : ByteArray), .string (⟨#[107, 99, 117, 100, 49]⟩ : ByteArray), .string (⟨#[27, 79, 66]⟩ : ByteArray), .string (⟨#[107, 99, 117, 102, 49]⟩ : ByteArray), .string (⟨#[27, 79, 67]⟩ : ByteArray), .string (⟨#[107, 99, 117, 117, 49]⟩ : ByteArray), .string (⟨#[27, 79, 65]⟩ : ByteArray), .string (⟨#[107, 100, 99, 104, 49]⟩ : ByteArray), .string (⟨#[27, 91, 51, 126]⟩ : ByteArray), .string (⟨#[107, 102, 49]⟩ : ByteArray), .string (⟨#[27, 79, 80]⟩ : ByteArray), .string (⟨#[110, 97, 109, 101]⟩ : ByteArray), .string (⟨#[99, 108, 97, 118, 105, 101, 114]⟩ : ByteArray)]) (ok := fun _ => True) (okp := fun _ => True) ?hr ?hp (fun _ hk => hk) trivial (Below.refl _ _) (Nat.le_refl _) (by simp) ?_; (case hd => rfl); (case hg => rfl); (case hr => first | (go_simp; done) | (go_simp; rfl)); (case hp => exact (Reps.c2 (show Kd.M k50 _ _ _ (⟨(⟨#[67, 111]⟩ : ByteArray), (⟨#[50, 53, 54]⟩ : ByteArray)⟩ : S50) [.string (⟨#[67, 111]⟩ : ByteArray), .string (⟨#[50, 53, 54]⟩ : ByteArray)] from (k50_mkM _ _ _ (⟨(⟨#[67, 111]⟩ : ByteArray), (⟨#[50, 53, 54]⟩ : ByteArray)⟩ : S50) )) (Reps.c2 (show Kd.M k50 _ _ _ (⟨(⟨#[82, 71, 66]⟩ : ByteArray), (⟨#[56]⟩ : ByteArray)⟩ : S50) [.string (⟨#[82, 71, 66]⟩ : ByteArray), .string (⟨#[56]⟩ : ByteArray)] from (k50_mkM _ _ _ (⟨(⟨#[82, 71, 66]⟩ : ByteArray), (⟨#[56]⟩ : ByteArray)⟩ : S50) )) (Reps.c2 (show Kd.M k50 _ _ _ (⟨(⟨#[84, 78]⟩ : ByteArray), (⟨#[99, 108, 97, 118, 105, 101, 114]⟩ : ByteArray)⟩ : S50) [.string (⟨#[84, 78]⟩ : ByteArray), .string (⟨#[99, 108, 97, 118, 105, 101, 114]⟩ : ByteArray)] from (k50_mkM _ _ _ (⟨(⟨#[84, 78]⟩ : ByteArray), (⟨#[99, 108, 97, 118, 105, 101, 114]⟩ : ByteArray)⟩ : S50) )) (Reps.c2 (show Kd.M k50 _ _ _ (⟨(⟨#[99, 111, 108, 111, 114, 115]⟩ : ByteArray), (⟨#[50, 53, 54]⟩ : ByteArray)⟩ : S50) [.string (⟨#[99, 111, 108, 111, 114, 115]⟩ : ByteArray), .string (⟨#[50, 53, 54]⟩ : ByteArray)] from (k50_mkM _ _ _ (⟨(⟨#[99, 111, 108, 111, 114, 115]⟩ : ByteArray), (⟨#[50, 53, 54]⟩ : ByteArray)⟩ : S50) )) (Reps.c2 (show Kd.M k50 _ _ _ (⟨(⟨#[107, 98, 115]⟩ : ByteArray), (⟨#[127]⟩ : ByteArray)⟩ : S50) [.string (⟨#[107, 98, 115]⟩ : ByteArray), .string (⟨#[127]⟩ : ByteArray)] from (k50_mkM _ _ _ (⟨(⟨#[107, 98, 115]⟩ : ByteArray), (⟨#[127]⟩ : ByteArray)⟩ : S50) )) (Reps.c2 (show Kd.M k50 _ _ _ (⟨(⟨#[107, 99, 117, 98, 49]⟩ : ByteArray), (⟨#[27, 79, 68]⟩ : ByteArray)⟩ : S50) [.string (⟨#[107, 99, 117, 98, 49]⟩ : ByteArray), .string (⟨#[27, 79, 68]⟩ : ByteArray)] from (k50_mkM _ _ _ (⟨(⟨#[107, 99, 117, 98, 49]⟩ : ByteArray), (⟨#[27, 79, 68]⟩ : ByteArray)⟩ : S50) )) (Reps.c2 (show Kd.M k50 _ _ _ (⟨(⟨#[107, 99, 117, 100, 49]⟩ : ByteArray), (⟨#[27, 79, 66]⟩ : ByteArray)⟩ : S50) [.string (⟨#[107, 99, 117, 100, 49]⟩ : ByteArray), .string (⟨#[27, 79, 66]⟩ : ByteArray)] from (k50_mkM _ _ _ (⟨(⟨#[107, 99, 117, 100, 49]⟩ : ByteArray), (⟨#[27, 79, 66]⟩ : ByteArray)⟩ : S50) )) (Reps.c2 (show Kd.M k50 _ _ _ (⟨(⟨#[107, 99, 117, 102, 49]⟩ : ByteArray), (⟨#[27, 79, 67]⟩ : ByteArray)⟩ : S50) [.string (⟨#[107, 99, 117, 102, 49]⟩ : ByteArray), .string (⟨#[27, 79, 67]⟩ : ByteArray)] from (k50_mkM _ _ _ (⟨(⟨#[107, 99, 117, 102, 49]⟩ : ByteArray), (⟨#[27, 79, 67]⟩ : ByteArray)⟩ : S50) )) (Reps.c2 (show Kd.M k50 _ _ _ (⟨(⟨#[107, 99, 117, 117, 49]⟩ : ByteArray), (⟨#[27, 79, 65]⟩ : ByteArray)⟩ : S50) [.string (⟨#[107, 99, 117, 117, 49]⟩ : ByteArray), .string (⟨#[27, 79, 65]⟩ : ByteArray)] from (k50_mkM _ _ _ (⟨(⟨#[107, 99, 117, 117, 49]⟩ : ByteArray), (⟨#[27, 79, 65]⟩ : ByteArray)⟩ : S50) )) (Reps.c2 (show Kd.M k50 _ _ _ (⟨(⟨#[107, 100, 99, 104, 49]⟩ : ByteArray), (⟨#[27, 91, 51, 126]⟩ : ByteArray)⟩ : S50) [.string (⟨#[107, 100, 99, 104, 49]⟩ : ByteArray), .string (⟨#[27, 91, 51, 126]⟩ : ByteArray)] from (k50_mkM _ _ _ (⟨(⟨#[107, 100, 99, 104, 49]⟩ : ByteArray), (⟨#[27, 91, 51, 126]⟩ : ByteArray)⟩ : S50) )) (Reps.c2 (show Kd.M k50 _ _ _ (⟨(⟨#[107, 102, 49]⟩ : ByteArray), (⟨#[27, 79, 80]⟩ : ByteArray)⟩ : S50) [.string (⟨#[107, 102, 49]⟩ : ByteArray), .string (⟨#[27, 79, 80]⟩ : ByteArray)] from (k50_mkM _ _ _ (⟨(⟨#[107, 102, 49]⟩ : ByteArray), (⟨#[27, 79, 80]⟩ : ByteArray)⟩ : S50) )) (Reps.c2 (show Kd.M k50 _ _ _ (⟨(⟨#[110, 97, 109, 101]⟩ : ByteArray), (⟨#[99, 108, 97, 118, 105, 101, 114]⟩ : ByteArray)⟩ : S50) [.string (⟨#[110, 97, 109, 101]⟩ : ByteArray), .string (⟨#[99, 108, 97, 118, 105, 101, 114]⟩ : ByteArray)] from (k50_mkM _ _ _ (⟨(⟨#[110, 97, 109, 101]⟩ : ByteArray), (⟨#[99, 108, 97, 118, 105, 101, 114]⟩ : ByteArray)⟩ : S50) )) (Reps.none _ _)))))))))))))); intro v120 w1 ho2 hb hg_ hnew_; clear hg_ hnew_; (first | rw [← Ny119.out] at ho2 | (simp only [Int.reduceToNat] at ho2; rw [← Ny119.out] at ho2)); have n0_ := Aside0.mk (Kd.R_lower ho2 (below_size (by repeat (first | (with_reducible first | exact HB.out | apply below_alloc | apply pw_below_drewN | apply below_drew1) | exact HB.out)))); have n1_ := Aside0.mk (below_step (by repeat (first | (with_reducible first | exact HB.out | apply below_alloc | apply pw_below_drewN | apply below_drew1) | exact HB.out)) hb); clear HB; have HO121 := n0_; have HB := n1_; clear n0_ n1_; clear hb ho2))
  go_ret
  exact ⟨_, by first | rfl | (simp [errW_none, errW_some] <;> rfl) | (simp [*, errW_none, errW_some] <;> rfl), by (with_reducible repeat (first | apply Kd.R_alloc | apply Kd.R_drewN | apply Kd.R_drew)); exact HO121.out, by repeat (first | (with_reducible first | exact HB.out | apply below_alloc | apply pw_below_drewN | apply below_drew1) | exact HB.out)⟩
def clavierref20_Names.l0 : Nat → List (S50) → List ByteArray → Int → Option (List ByteArray)
  | 0, _, _, _ => none
  | k + 1, x1, x2, x3 => if x3 < (x1.length : Int) then (if 0 ≤ x3 then (if x2.length < 8796093022208 then (clavierref20_Names.l0 k x1 (x2 ++ [(rd_T50 x1 x3).f0]) (wrap64 (x3 + 1))) else (none)) else (none)) else (some x2)
def clavierref20_Names.f (k : Nat)  : Option (List ByteArray) := (clavierref20_all.f).bind fun t324 => (clavierref20_Names.l0 k t324 ([] : List ByteArray) 0)
theorem clavierref20_Names.mono_l : ∀ k, (∀ y0 y1 y2, LeO (clavierref20_Names.l0 k y0 y1 y2) (clavierref20_Names.l0 (k + 1) y0 y1 y2))
  | 0 => fun _ _ _ r h => by simp [clavierref20_Names.l0] at h
  | k + 1 => by
    have ih0 := clavierref20_Names.mono_l k
    · intro y0 y1 y2
      unfold clavierref20_Names.l0
      repeat' first
      | (with_reducible exact ih0 _ _ _)
      | (with_reducible exact LeO.refl _)
      | (with_reducible exact LeO.none _)
      | (with_reducible refine LeO.ite ?_ ?_)
      | (with_reducible refine LeO.bind ?_ (fun _ => ?_))
      | exact ih0 _ _ _
      | exact LeO.none _
      | refine LeO.ite ?_ ?_
      | refine LeO.bind ?_ (fun _ => ?_)
theorem clavierref20_Names.mono : ∀ k, LeO (clavierref20_Names.f k ) (clavierref20_Names.f (k + 1) ) := by
  intro  k
  have ih0 := clavierref20_Names.mono_l k
  unfold clavierref20_Names.f
  repeat' first
      | (with_reducible exact ih0 _ _ _)
      | (with_reducible exact LeO.refl _)
      | (with_reducible exact LeO.none _)
      | (with_reducible refine LeO.ite ?_ ?_)
      | (with_reducible refine LeO.bind ?_ (fun _ => ?_))
      | exact ih0 _ _ _
      | exact LeO.none _
      | refine LeO.ite ?_ ?_
      | refine LeO.bind ?_ (fun _ => ?_)
set_option maxHeartbeats 8000000 in
set_option maxRecDepth 100000 in
theorem clavierref20_Names.calls (k : Nat)  (r : List ByteArray) (w : World) (h : clavierref20_Names.f k  = some r) :
    Calls Tryd.prog 18 #[] w fun e w' => ∃ v0_ : Value, e = .returned (v0_) ∧ Kd.R Kd.string 9 w' w.heap.size (fun _ => True) v0_ r ∧ Below w.heap.size w w' := by
  have HB := Aside0.mk (Below.refl w.heap.size w)
  have H : ((clavierref20_all.f).bind fun t324 => (clavierref20_Names.l0 k t324 ([] : List ByteArray) 0)) = some r := h
  clear h
  replace H := Option.bind_eq_some_iff.mp H
  obtain ⟨t324, A10, H⟩ := H
  replace H : (clavierref20_Names.l0 k t324 ([] : List ByteArray) 0) = some r := H
  have A1 := Aside0.mk A10
  clear A10
  have H' := Aside0.mk H
  clear H
  go_enter Tryd.func18, Tryd.ntmps18
  go_wp2_with (first | ((with_reducible refine gate_callee (f := 20) rfl ?_); refine goesL_ (some 4) rfl rfl Tryd.func20 (by kernel_rfl) rfl #[] rfl (by (try simp only [List.map_toArray, List.map_cons, List.map_nil]); first | done | rfl | (simp only [List.length_drop, List.length_take]; rfl)) ?_; (with_reducible refine (clavierref20_all.calls  t324 _ A1.out).mono ?_); rintro e w2 ⟨v325, rfl, ho0, hb⟩; refine ⟨_, rfl, ?_⟩; have n0_ := Aside0.mk (Kd.R_lower ho0 (below_size (by repeat (first | (with_reducible first | exact HB.out | apply below_alloc | apply pw_below_drewN | apply below_drew1) | exact HB.out)))); have n1_ := Aside0.mk (below_step (by repeat (first | (with_reducible first | exact HB.out | apply below_alloc | apply pw_below_drewN | apply below_drew1) | exact HB.out)) hb); clear HB; have HO326 := n0_; have HB := n1_; clear n0_ n1_; (try clear hb); (try clear hb2); (try clear hk); (try clear hi); (try clear ho0)))
  go_loopg [2, 3] k (fun kq v2 v3 w' => ∃ (x2_1 : List ByteArray) (x3_1 : Int), v3 = .int .i64 x3_1 ∧ Aside0 (clavierref20_Names.l0 kq t324 x2_1 x3_1 = some r) ∧ Aside0 (kq ≤ k) ∧ Aside0 (Kd.R k50 50 w' w.heap.size (fun _ => True) v325 t324) ∧ Aside0 (Kd.R Kd.string 9 w' w.heap.size (fun _ => True) v2 x2_1) ∧ Aside0 (Below w.heap.size w w'))
  case atStart => exact ⟨(([] : List ByteArray)), (0), (by first | rfl | (simp; done) | (simp [*]; done)), H', ⟨Nat.le_refl _⟩, ⟨by (with_reducible repeat (first | apply Kd.R_alloc | apply Kd.R_drewN | apply Kd.R_drew)); exact HO326.out⟩, ⟨by first | exact Kd.R_nil _ _ _ _ _ | exact Kd.N_nil _ _ _ _ _ | exact Kd.V_nil _ _ _ _ _ | exact Kd.Q_nil _ _ _ _ _ | exact Kd.S_nil _ _ _ _ _⟩, ⟨by repeat (first | (with_reducible first | exact HB.out | apply below_alloc | apply pw_below_drewN | apply below_drew1) | exact HB.out)⟩⟩
  case round =>
    clear H'
    try clear c1
    try clear c2
    try clear p2
    obtain ⟨x2_1, x3_1, rfl, HA, HK1, HO_1, HO_2, HB⟩ := hrel
    cases gk with
    | zero => exact absurd HA.out (by simp [clavierref20_Names.l0])
    | succ k1 =>
      have H := HA.out
      clear HA
      simp only [clavierref20_Names.l0] at H
      by_cases c3 : x3_1 < (t324.length : Int)
      · rw [if_pos c3] at H
        have c3b0 : decide (x3_1 < (t324.length : Int)) = true := decide_eq_true c3
        clear c3
        by_cases c4 : 0 ≤ x3_1
        · rw [if_pos c4] at H
          have c4b0 : decide (0 ≤ x3_1) = true := decide_eq_true c4
          clear c4
          by_cases c5 : x2_1.length < 8796093022208
          · rw [if_pos c5] at H
            have LMc5 := Aside0.mk c5
            clear c5
            obtain ⟨y328, hy328⟩ : ∃ y_ : List ByteArray, y_ = (x2_1 ++ [(rd_T50 t324 x3_1).f0]) := ⟨_, rfl⟩
            replace H : (clavierref20_Names.l0 k1 t324 y328 (wrap64 (x3_1 + 1))) = some r := by first | (rw [hy328]; with_reducible exact H) | (have H2_ := (Option.bind_some _ _).symm.trans H; rw [hy328]; with_reducible exact H2_) | (have H2_ := (Option.bind_some _ _).symm.trans H; with_reducible exact H2_) | with_reducible exact H | (rw [hy328]; exact H) | exact H
            have Ny328 := Aside0.mk hy328
            clear hy328
            have H' := Aside0.mk H
            clear H
            obtain ⟨Ao6, co6, eo6⟩ := Kd.R_slice HO_1.out
            subst eo6
            have p327 : 0 ≤ (x3_1 : Int) := of_decide_eq_true (by first | (with_reducible assumption) | assumption)
            have q327 : x3_1 < (t324.length : Int) := of_decide_eq_true (by first | (with_reducible assumption) | assumption)
            obtain ⟨ad327, e327, hx327_0, hx327_1⟩ := at_T50 (Kd.R_reads' HO_1.out).2.2 x3_1 p327 q327
            cases e327
            replace p327 := eq_true p327
            replace q327 := eq_true q327
            go_wp2_with (first | ((with_reducible refine gate_builtin (b := .append) (xs := #[.tmp 11, .tmp 17]) rfl ?_); at_builtin; refine Kd.R_append Kd.string (w0 := w) w.heap.size rfl (.tmp 11) (.tmp 17) 34 9 (.string ⟨#[]⟩) 16 rfl Tryd.underlying34 info9 rfl (by decide) (by omega) u2 x2_1 ((rd_T50 t324 x3_1).f0) [.string ((rd_T50 t324 x3_1).f0)] (fun _ => True) (fun _ => False) rfl rfl ?aP (fun _ hk => hk.elim) ?aF ?aO ?aB ?aS ?aL ?_; (case aP => exact rfl); (case aB => exact (by repeat (first | (with_reducible first | exact HB.out | apply below_alloc | apply pw_below_drewN | apply below_drew1) | exact HB.out))); (case aF => exact (fun _ _ => trivial)); (case aO => exact (by (with_reducible repeat (first | apply Kd.R_alloc | apply Kd.R_drewN | apply Kd.R_drew)); exact HO_2.out)); (case aS => exact (below_size (by repeat (first | (with_reducible first | exact HB.out | apply below_alloc | apply pw_below_drewN | apply below_drew1) | exact HB.out)))); (case aL => have := LMc5.out; omega); intro v329 w7 ho hb hg hat; rw [← Ny328.out] at ho; have n0_ := Aside0.mk (Kd.R_over' (by (with_reducible repeat (first | apply Kd.R_alloc | apply Kd.R_drewN | apply Kd.R_drew)); exact HO_1.out) (Kd.R_typed (by (with_reducible repeat (first | apply Kd.R_alloc | apply Kd.R_drewN | apply Kd.R_drew)); exact HO_2.out)) (by decide) hg); have n1_ := Aside0.mk (hb); have n2_ := Aside0.mk (ho); clear HO_1; clear HB; clear HO_2; have HO_1 := n0_; have HB := n1_; have HO330 := n2_; clear n0_ n1_ n2_; clear ho hb hg hat))
            go_roundg k1
            case measure => have := HK1.out; omega
            case rel => exact ⟨(y328), (wrap64 (x3_1 + 1)), (by first | rfl | (simp; done) | (simp [*]; done)), H', ⟨by have := HK1.out; omega⟩, ⟨by (with_reducible repeat (first | apply Kd.R_alloc | apply Kd.R_drewN | apply Kd.R_drew)); exact HO_1.out⟩, ⟨by (with_reducible repeat (first | apply Kd.R_alloc | apply Kd.R_drewN | apply Kd.R_drew)); exact HO330.out⟩, ⟨by repeat (first | (with_reducible first | exact HB.out | apply below_alloc | apply pw_below_drewN | apply below_drew1) | exact HB.out)⟩⟩
          · rw [if_neg c5] at H
            exact absurd H (by simp)
        · rw [if_neg c4] at H
          exact absurd H (by simp)
      · rw [if_neg c3] at H
        have c3b0 : decide (x3_1 < (t324.length : Int)) = false := decide_eq_false c3
        clear c3
        obtain rfl := Option.some.inj H
        obtain ⟨Ao8, co8, eo8⟩ := Kd.R_slice HO_1.out
        subst eo8
        go_wp2
        go_ret
        exact ⟨_, by first | rfl | (simp [errW_none, errW_some] <;> rfl) | (simp [*, errW_none, errW_some] <;> rfl), by (with_reducible repeat (first | apply Kd.R_alloc | apply Kd.R_drewN | apply Kd.R_drew)); exact HO_2.out, by repeat (first | (with_reducible first | exact HB.out | apply below_alloc | apply pw_below_drewN | apply below_drew1) | exact HB.out)⟩
end Go.Proofs.YtclnanhgcnopdaaDoor.G
end
section
namespace Go.Proofs.YtclnanhgcnopdaaDoor
set_option linter.unusedVariables false
set_option linter.unusedSimpArgs false
open Go.RowKit Kit G Go.Proofs.YtclnanhgcnopdaaDoorW.PrintWords
theorem toL_inj {a b : ByteArray} : (a.toList = b.toList) ↔ a = b := by
  constructor
  · intro e
    rw [Lib.toList_data, Lib.toList_data] at e
    exact ByteArray.ext (Array.toList_inj.1 e)
  · rintro rfl; rfl
end Go.Proofs.YtclnanhgcnopdaaDoor
end
section
namespace Go.Proofs.YtclnanhgcnopdaaDoor
set_option linter.unusedVariables false
set_option linter.unusedSimpArgs false
open Go.RowKit Kit
namespace Kit
section
variable {P : Program} {Q : Exit → Act → World → Prop}
theorem region_law (k : Nat) (fs : List Fact) {id : Nat} {l : List Oper} {a0 : Act} {W0 w0 : World} {bs : Res} (HO : Mine W0 w0 bs) (hm : P.follows .mixedOrders = true) (hB : anyOk l.toArray = true) (hk : decide (k ≤ l.length) = true) (hT : tailOk l.toArray k = true)
    (hs : ∀ p ∈ fs, Stays p)
    (h : ∀ vals A, A = fillL l.toArray vals (List.range k) a0 →
      eachFrom (fun i o => ∀ w, (∀ j, waits l.toArray o j = true → Facts fs j (vals j) w) → Mine W0 w bs → Below w0.heap.size w0 w → StepOk P l.toArray o A w fun v w' => Below w.heap.size w w' ∧ Facts fs i v w') 0 (l.take k) ∧
      ∀ w, (∀ i < k, Facts fs i (vals i) w) → Mine W0 w bs → Below w0.heap.size w0 w → wpList P l.toArray Q (l.drop k) A w) :
    (Code.region id l.toArray true).wp P Q a0 w0 := by
  refine wp_region_walk k hm hB hk hT (fun w => Mine W0 w bs ∧ Below w0.heap.size w0 w) (fun a b => Below a.heap.size a b) (fun _ => []) (fun i vals w => Facts fs i (vals i) w) ?_ (fun i vals w w' h1 h2 => Facts.stays hs i _ _ _ h1 h2) (fun i vals vals' w e _ h1 => by rw [e]; exact h1) ⟨HO.drew, (Below.refl _ _).drew⟩ ?_
  · refine List.all_eq_true.2 fun i _ => ?_
    cases l[i]? <;> simp
  · intro vals A hA
    obtain ⟨h1, h2⟩ := h vals A hA
    refine ⟨?_, fun w hf hI => h2 w hf hI.1 hI.2⟩
    have mono : ∀ (R R' : Nat → Oper → Prop), (∀ i o, R i o → R' i o) → ∀ (l : List Oper) (k : Nat), eachFrom R k l → eachFrom R' k l := by
      intro R R' hR l
      induction l with
      | nil => intro k _; trivial
      | cons o l ih => intro k hk; exact ⟨hR _ _ hk.1, ih _ hk.2⟩
    refine mono _ _ (fun i o hi w hf hI => ?_) _ _ h1
    have h3 := hi w hf hI.1 hI.2
    have k2 : ∀ {v w'}, (Below w.heap.size w w' ∧ Facts fs i v w') → ((Mine W0 w' bs ∧ Below w0.heap.size w0 w') ∧ Below w.heap.size w w' ∧ ∀ vals' : Nat → Value, vals' i = v → (∀ d ∈ ([] : List Nat), vals' d = vals d) → Facts fs i (vals' i) w') := by
      rintro v w' ⟨hb, hf⟩
      exact ⟨⟨hI.1.call hb, hI.2.trans (hb.mono hI.2.size)⟩, hb, fun vals' e _ => by rw [e]; exact hf⟩
    unfold StepOk at h3 ⊢
    split
    · rename_i hw
      rw [if_pos hw] at h3
      generalize (execOp A.eval o).run P w = r at h3 ⊢
      cases r with
      | ok n w' =>
        cases n <;> simp only [StepUpon] at h3 ⊢
        case value u => exact k2 h3
        case skip => exact k2 h3
        case enter f args => exact h3.mono fun e w'' he => by obtain ⟨v, rfl, hk⟩ := he; exact ⟨v, rfl, k2 hk⟩
      | halt x w' => simp only [StepUpon] at h3
    · rename_i hw
      rw [if_neg hw] at h3
      exact k2 h3
end
end Kit
end Go.Proofs.YtclnanhgcnopdaaDoor
end
section
namespace Go.Proofs.YtclnanhgcnopdaaDoor
set_option linter.unusedVariables false
set_option linter.unusedSimpArgs false
open Go.RowKit Kit G Go.Proofs.YtclnanhgcnopdaaDoorW.PrintWords
theorem names_look (j : Nat) (h : j < 12) : (lookB (namesB.getD j ⟨#[]⟩)).2 = true ∧ (lookB (namesB.getD j ⟨#[]⟩)).1 ≠ ⟨#[]⟩ := by
  have : ∀ j, j < 12 → (lookB (namesB.getD j ⟨#[]⟩)).2 = true ∧ (lookB (namesB.getD j ⟨#[]⟩)).1 ≠ ⟨#[]⟩ := by decide +kernel
  exact this j h
theorem names_rise (j : Nat) (h : j < 11) : Op.bytesLess (namesB.getD j ⟨#[]⟩).toList (namesB.getD (j + 1) ⟨#[]⟩).toList = true := by
  have : ∀ j, j < 11 → Op.bytesLess (namesB.getD j ⟨#[]⟩).toList (namesB.getD (j + 1) ⟨#[]⟩).toList = true := by
    simp only [Lib.toList_data]
    decide +kernel
  exact this j h
def inB (s : ByteArray) (k : Nat) : Bool := (namesB.take k).any fun x => decide (x = s)
theorem inB_step (s : ByteArray) (k : Nat) (h : k < 12) : inB s (k + 1) = (inB s k || decide (namesB.getD k ⟨#[]⟩ = s)) := by
  have hl : namesB.length = 12 := rfl
  unfold inB
  rw [List.take_succ_eq_append_getElem (by omega), List.any_append]
  have e : namesB.getD k ⟨#[]⟩ = namesB[k] := by rw [List.getD_eq_getElem?_getD, List.getElem?_eq_getElem (by omega)]; rfl
  rw [e]
  simp only [List.any_cons, List.any_nil, Bool.or_false]
  first | done | rfl | congr
theorem inB_all (s : ByteArray) : inB s 12 = (lookB s).2 := by
  by_cases h : inB s 12 = true
  · rw [h]
    obtain ⟨x, hx, e⟩ := List.any_eq_true.1 h
    have e2 : x = s := of_decide_eq_true e
    subst e2
    have hl : namesB.length = 12 := rfl
    rw [List.take_of_length_le (by omega)] at hx
    obtain ⟨j, hj, rfl⟩ := List.mem_iff_getElem.1 hx
    have := (names_look j (by omega)).1
    rw [List.getD_eq_getElem?_getD, List.getElem?_eq_getElem hj] at this
    exact this.symm
  · have h2 : inB s 12 = false := by simpa using h
    rw [h2]
    have h3 : ∀ x ∈ namesB, x ≠ s := fun x hx e => by
      have := List.any_eq_false.1 h2 x (by rw [List.take_of_length_le (by decide)]; exact hx)
      simp [e] at this
    simp [namesB, namesL, ofL, eq_comm] at h3
    simp [lookB, eq_comm, h3]
attribute [local irreducible] wpList Calls wpQuiet
theorem names20_f : (clavierref20_Names.f 13).map List.length = some 12 := by decide +kernel
theorem names20_calls (w : World) : Calls Tryd.prog 18 #[] w fun e w' => ∃ p c, e = .returned (.slice p 12 c) ∧ Below w.heap.size w w' := by
  have h := names20_f
  cases hr : clavierref20_Names.f 13 with
  | none => rw [hr] at h; cases h
  | some r =>
    rw [hr] at h
    have hl : r.length = 12 := by simpa using h
    refine (clavierref20_Names.calls 13 r w hr).mono ?_
    rintro e w' ⟨v, rfl, hR, hb⟩
    obtain ⟨ad, c, hv⟩ := Kd.R_slice1 hR (by omega)
    rw [hl] at hv
    exact ⟨_, c, by rw [hv], hb⟩
theorem eqS (a b : ByteArray) : (a.toList == b.toList) = decide (a = b) := by
  rw [Bool.eq_iff_iff]
  simp [toL_inj]
set_option maxRecDepth 100000 in
set_option maxHeartbeats 4000000 in
theorem capsNames_calls (name : ByteArray) (w : World) : Calls Tryd.prog 7 #[.string name] w fun e w' => e = .returned (.bool true) ∧ Below w.heap.size w w' := by
  have HO := Mine.start w
  by_cases h1 : 100 < name.size
  · have b1 : decide ((100 : Int) < (name.size : Int)) = true := decide_eq_true (by omega)
    have b2 : decide (100 < name.size) = true := decide_eq_true h1
    clear h1
    go_enter Tryd.func7, Tryd.ntmps7
    go_wp2_with (go_at_call 8; refine (awake20_calls _).mono ?_; rintro eN wN ⟨rfl, hbN⟩; have HON := HO.call hbN; clear HO hbN; have HO := HON; clear HON)
    go_ret
    exact ⟨rfl, HO.below⟩
  have b1 : decide ((100 : Int) < (name.size : Int)) = false := decide_eq_false (by omega)
  have b2 : decide (100 < name.size) = false := decide_eq_false h1
  clear h1
  go_enter Tryd.func7, Tryd.ntmps7
  go_wp2_with (first
      | (go_at_call 8; refine (awake20_calls _).mono ?_; rintro eN wN ⟨rfl, hbN⟩; have HON := HO.call hbN; clear HO hbN; have HO := HON; clear HON)
      | (go_at_call 15; refine (namesG_calls _).mono ?_; rintro eN wN ⟨b, c, R, rfl, hGR, HM⟩; have HGR := Lib.hid hGR; clear hGR; have HON := HO.join HM; clear HO HM; have HO := HON; clear HON; (simp only [List.nil_append, List.cons_append] at HO)))
  go_loopw [5, 6] (fun d i wr => ∃ k : Nat, k ≤ 12 ∧ i = .int .i64 k ∧ d = .bool (inB name k) ∧ Mine w wr R) (fun _ i _ => 12 - (intOf i).toNat)
  case atStart => exact ⟨0, Nat.zero_le _, rfl, rfl, HO⟩
  case round =>
    obtain ⟨k, hk, rfl, rfl, HO2⟩ := hrel
    clear HO
    have HO := HO2
    clear HO2
    by_cases hlt : k < 12
    · have hrd : ∀ (W : World), Mine w W R → ∀ j, j < 12 → W.cell? ⟨b, j, none⟩ = some (.string (namesB.getD j ⟨#[]⟩)) := fun W hm j hj => by
        obtain ⟨_, h2, _⟩ := HGR.out.readsT hm .here
        obtain ⟨b', o', he, hc⟩ := h2 j (.string (namesB.getD j ⟨#[]⟩)) (by
          have hl : namesB.length = 12 := rfl
          rw [List.getElem?_map, List.getD_eq_getElem?_getD, List.getElem?_eq_getElem (by omega)]; rfl)
        cases he
        rw [Nat.zero_add] at hc
        exact hc
      have HRD := Lib.hid hrd
      clear hrd
      obtain ⟨hk1, hk2⟩ := names_look k hlt
      have hstep := inB_step name k hlt
      have hless : 0 < k → Op.bytesLess (namesB.getD (k - 1) ⟨#[]⟩).toList (namesB.getD k ⟨#[]⟩).toList = true := fun h0 => by
        have := names_rise (k - 1) (by omega)
        rw [show k - 1 + 1 = k by omega] at this
        exact this
      obtain ⟨y, hy⟩ : ∃ y, namesB.getD (k - 1) ⟨#[]⟩ = y := ⟨_, rfl⟩
      have hcx := HRD.out _ HO k hlt
      obtain ⟨x, hx⟩ : ∃ x, namesB.getD k ⟨#[]⟩ = x := ⟨_, rfl⟩
      rw [hx] at hcx hk1 hk2 hstep hless
      rw [hy] at hless
      obtain ⟨v, is, hvk⟩ : ∃ v is, lookB x = (v, is) := ⟨_, _, rfl⟩
      rw [hvk] at hk1 hk2
      obtain rfl : is = true := hk1
      have hv0 : (v.toList == ([] : List UInt8)) = false := by
        rw [beq_eq_false_iff_ne]
        exact fun e => hk2 ((toL_nil v).1 e)
      have HX := Lib.hid hx
      have HY := Lib.hid hy
      have HL := Lib.hid hvk
      have HST := Lib.hid hstep
      have HLS := Lib.hid hless
      clear hk2 hx hy hvk hstep hless
      obtain ⟨n, hn⟩ : ∃ n, inB name k = n := ⟨_, rfl⟩
      rw [hn] at HST
      rw [hn]
      clear hn
      have hk0 : k - 1 < 12 := by omega
      go_wp2_with (go_at_call 9; refine (look_calls x v true HL.out _).mono ?_; rintro eN wN ⟨rfl, hbN⟩; have HON := HO.call hbN; clear HO hbN; have HO := HON; clear HON)
      by_cases h0 : 0 < k
      · have hp : decide ((0 : Int) < (k : Int)) = true := decide_eq_true (by omega)
        have hs1 : IntKind.i64.wrap ((k : Int) - 1) = ((k - 1 : Nat) : Int) := by simp [IntKind.wrap, IntKind.signed, IntKind.bits] <;> omega
        have hle := HLS.out h0
        have hge : (!Op.bytesLess y.toList x.toList) = false := by rw [hle]; rfl
        refine region_law 22 [fIs (.bool true), fIs (.bool false), fIs (.bool false), fIs (.string v), fIs (.bool false), fIs (.bool false), fIs (.bool false), fIs (.int .i64 (k : Int)), fIs (.bool true), fIs (.bool true), fIs (.slice (some ⟨b, 0, none⟩) 12 c), fIs (.int .i64 (k : Int)), fIs (.int .i64 ((k - 1 : Nat) : Int)), fIs (.pointer (some ⟨b, k - 1, none⟩)), fIs (.string y), fIs (.slice (some ⟨b, 0, none⟩) 12 c), fIs (.int .i64 (k : Int)), fIs (.pointer (some ⟨b, k, none⟩)), fIs (.string x), fIs (.bool false), fIs (.bool false), fIs (.bool false)] HO (by kernel_rfl) (by kernel_rfl) (by decide) (by kernel_rfl)
          (stays_cons (Stays.fIs _) (stays_cons (Stays.fIs _) (stays_cons (Stays.fIs _) (stays_cons (Stays.fIs _) (stays_cons (Stays.fIs _) (stays_cons (Stays.fIs _) (stays_cons (Stays.fIs _) (stays_cons (Stays.fIs _) (stays_cons (Stays.fIs _) (stays_cons (Stays.fIs _) (stays_cons (Stays.fIs _) (stays_cons (Stays.fIs _) (stays_cons (Stays.fIs _) (stays_cons (Stays.fIs _) (stays_cons (Stays.fIs _) (stays_cons (Stays.fIs _) (stays_cons (Stays.fIs _) (stays_cons (Stays.fIs _) (stays_cons (Stays.fIs _) (stays_cons (Stays.fIs _) (stays_cons (Stays.fIs _) (stays_cons (Stays.fIs _) stays_nil)))))))))))))))))))))) ?_
        intro vals A hA
        simp [fillL, dstOf, List.range, List.range.loop, Act.put] at hA
        subst hA
        refine ⟨⟨?_, ?_, ?_, ?_, ?_, ?_, ?_, ?_, ?_, ?_, ?_, ?_, ?_, ?_, ?_, ?_, ?_, ?_, ?_, ?_, ?_, ?_, trivial⟩, ?_⟩
        all_goals intro W hd hM hb0
        case refine_1 =>
          skip
          exact st_val rfl (by simp only [execOp]; first | (go_simp; done) | (go_simp; rfl)) rfl
        case refine_2 =>
          have v0 : vals 0 = .bool true := hd 0 (by kernel_rfl)
          rw [v0]
          exact st_val rfl (by simp only [execOp]; first | (go_simp; done) | (go_simp; rfl)) rfl
        case refine_3 =>
          have v1 : vals 1 = .bool false := hd 1 (by kernel_rfl)
          rw [v1]
          exact st_val rfl (by simp only [execOp]; first | (go_simp; done) | (go_simp; rfl)) rfl
        case refine_4 =>
          have v2 : vals 2 = .bool false := hd 2 (by kernel_rfl)
          rw [v2]
          exact st_val rfl (by simp only [execOp]; first | (go_simp; done) | (go_simp; rfl)) rfl
        case refine_5 =>
          have v3 : vals 3 = .string v := hd 3 (by kernel_rfl)
          have v2 : vals 2 = .bool false := hd 2 (by kernel_rfl)
          rw [v3, v2]
          exact st_val rfl (by simp only [execOp]; first | (go_simp; done) | (go_simp; rfl)) rfl
        case refine_6 =>
          have v2 : vals 2 = .bool false := hd 2 (by kernel_rfl)
          have v4 : vals 4 = .bool false := hd 4 (by kernel_rfl)
          rw [v2, v4]
          exact st_val rfl (by simp only [execOp]; first | (go_simp; done) | (go_simp; rfl)) rfl
        case refine_7 =>
          have v5 : vals 5 = .bool false := hd 5 (by kernel_rfl)
          rw [v5]
          exact st_val rfl (by simp only [execOp]; first | (go_simp; done) | (go_simp; rfl)) rfl
        case refine_8 =>
          have v6 : vals 6 = .bool false := hd 6 (by kernel_rfl)
          rw [v6]
          exact st_val rfl (by simp only [execOp]; first | (go_simp; done) | (go_simp; rfl)) rfl
        case refine_9 =>
          have v7 : vals 7 = .int .i64 (k : Int) := hd 7 (by kernel_rfl)
          have v6 : vals 6 = .bool false := hd 6 (by kernel_rfl)
          rw [v7, v6]
          exact st_val rfl (by simp only [execOp]; first | (go_simp; done) | (go_simp; rfl)) rfl
        case refine_10 =>
          have v8 : vals 8 = .bool true := hd 8 (by kernel_rfl)
          have v6 : vals 6 = .bool false := hd 6 (by kernel_rfl)
          rw [v8, v6]
          exact st_val rfl (by simp only [execOp]; first | (go_simp; done) | (go_simp; rfl)) rfl
        case refine_11 =>
          have v9 : vals 9 = .bool true := hd 9 (by kernel_rfl)
          rw [v9]
          exact st_val rfl (by simp only [execOp]; first | (go_simp; done) | (go_simp; rfl)) rfl
        case refine_12 =>
          have v9 : vals 9 = .bool true := hd 9 (by kernel_rfl)
          rw [v9]
          exact st_val rfl (by simp only [execOp]; first | (go_simp; done) | (go_simp; rfl)) rfl
        case refine_13 =>
          have v11 : vals 11 = .int .i64 (k : Int) := hd 11 (by kernel_rfl)
          have v9 : vals 9 = .bool true := hd 9 (by kernel_rfl)
          rw [v11, v9]
          exact st_val (v := .int .i64 ((k - 1 : Nat) : Int)) rfl (by simp only [execOp]; go_simp) rfl
        case refine_14 =>
          have v10 : vals 10 = .slice (some ⟨b, 0, none⟩) 12 c := hd 10 (by kernel_rfl)
          have v12 : vals 12 = .int .i64 ((k - 1 : Nat) : Int) := hd 12 (by kernel_rfl)
          have v9 : vals 9 = .bool true := hd 9 (by kernel_rfl)
          rw [v10, v12, v9]
          exact st_val (v := .pointer (some ⟨b, k - 1, none⟩)) rfl (by simp only [execOp]; go_simp; intro h; omega) rfl
        case refine_15 =>
          have v13 : vals 13 = .pointer (some ⟨b, k - 1, none⟩) := hd 13 (by kernel_rfl)
          have v9 : vals 9 = .bool true := hd 9 (by kernel_rfl)
          rw [v13, v9]
          have hc := HRD.out W hM (k - 1) (by omega)
          rw [HY.out] at hc
          exact st_read (Mine.start W) rfl rfl rfl hc Tryd.isAgg9 rfl
        case refine_16 =>
          have v9 : vals 9 = .bool true := hd 9 (by kernel_rfl)
          rw [v9]
          exact st_val rfl (by simp only [execOp]; first | (go_simp; done) | (go_simp; rfl)) rfl
        case refine_17 =>
          have v9 : vals 9 = .bool true := hd 9 (by kernel_rfl)
          rw [v9]
          exact st_val rfl (by simp only [execOp]; first | (go_simp; done) | (go_simp; rfl)) rfl
        case refine_18 =>
          have v15 : vals 15 = .slice (some ⟨b, 0, none⟩) 12 c := hd 15 (by kernel_rfl)
          have v16 : vals 16 = .int .i64 (k : Int) := hd 16 (by kernel_rfl)
          have v9 : vals 9 = .bool true := hd 9 (by kernel_rfl)
          rw [v15, v16, v9]
          exact st_val rfl (by simp only [execOp]; first | (go_simp; done) | (go_simp; rfl)) rfl
        case refine_19 =>
          have v17 : vals 17 = .pointer (some ⟨b, k, none⟩) := hd 17 (by kernel_rfl)
          have v9 : vals 9 = .bool true := hd 9 (by kernel_rfl)
          rw [v17, v9]
          have hc := HRD.out W hM (k) (by omega)
          rw [HX.out] at hc
          exact st_read (Mine.start W) rfl rfl rfl hc Tryd.isAgg9 rfl
        case refine_20 =>
          have v14 : vals 14 = .string y := hd 14 (by kernel_rfl)
          have v18 : vals 18 = .string x := hd 18 (by kernel_rfl)
          have v9 : vals 9 = .bool true := hd 9 (by kernel_rfl)
          rw [v14, v18, v9]
          exact st_val rfl (by simp only [execOp]; first | (go_simp; done) | (go_simp; rfl)) rfl
        case refine_21 =>
          have v6 : vals 6 = .bool false := hd 6 (by kernel_rfl)
          have v9 : vals 9 = .bool true := hd 9 (by kernel_rfl)
          have v19 : vals 19 = .bool false := hd 19 (by kernel_rfl)
          rw [v6, v9, v19]
          exact st_val rfl (by simp only [execOp]; first | (go_simp; done) | (go_simp; rfl)) rfl
        case refine_22 =>
          have v6 : vals 6 = .bool false := hd 6 (by kernel_rfl)
          have v20 : vals 20 = .bool false := hd 20 (by kernel_rfl)
          rw [v6, v20]
          exact st_val rfl (by simp only [execOp]; first | (go_simp; done) | (go_simp; rfl)) rfl
        case refine_23 =>
          have v21 : vals 21 = .bool false := hd 21 (by omega)
          rw [v21]
          simp only [List.drop_succ_cons, List.drop_zero]
          have hcx := HRD.out W hM k hlt
          rw [HX.out] at hcx
          clear HO
          have HO := hM
          rcases n with _ | _
          · go_wp2
            go_roundw
            case rel => exact ⟨k + 1, by omega, by go_num, by rw [HST.out, eqS]; rfl, HO⟩
            case measure => simp [intOf]; try omega
          · go_wp2
            go_roundw
            case rel => exact ⟨k + 1, by omega, by go_num, by rw [HST.out]; rfl, HO⟩
            case measure => simp [intOf]; try omega
      · obtain rfl : k = 0 := by omega
        refine region_law 22 [fIs (.bool true), fIs (.bool false), fIs (.bool false), fIs (.string v), fIs (.bool false), fIs (.bool false), fIs (.bool false), fIs (.int .i64 ((0 : Nat) : Int)), fIs (.bool false), fIs (.bool false), fIs (undef), fIs (undef), fIs (undef), fIs (undef), fIs (undef), fIs (undef), fIs (undef), fIs (undef), fIs (undef), fIs (undef), fIs (.bool false), fIs (.bool false)] HO (by kernel_rfl) (by kernel_rfl) (by decide) (by kernel_rfl)
          (stays_cons (Stays.fIs _) (stays_cons (Stays.fIs _) (stays_cons (Stays.fIs _) (stays_cons (Stays.fIs _) (stays_cons (Stays.fIs _) (stays_cons (Stays.fIs _) (stays_cons (Stays.fIs _) (stays_cons (Stays.fIs _) (stays_cons (Stays.fIs _) (stays_cons (Stays.fIs _) (stays_cons (Stays.fIs _) (stays_cons (Stays.fIs _) (stays_cons (Stays.fIs _) (stays_cons (Stays.fIs _) (stays_cons (Stays.fIs _) (stays_cons (Stays.fIs _) (stays_cons (Stays.fIs _) (stays_cons (Stays.fIs _) (stays_cons (Stays.fIs _) (stays_cons (Stays.fIs _) (stays_cons (Stays.fIs _) (stays_cons (Stays.fIs _) stays_nil)))))))))))))))))))))) ?_
        intro vals A hA
        simp [fillL, dstOf, List.range, List.range.loop, Act.put] at hA
        subst hA
        refine ⟨⟨?_, ?_, ?_, ?_, ?_, ?_, ?_, ?_, ?_, ?_, ?_, ?_, ?_, ?_, ?_, ?_, ?_, ?_, ?_, ?_, ?_, ?_, trivial⟩, ?_⟩
        all_goals intro W hd hM hb0
        case refine_1 =>
          skip
          exact st_val rfl (by simp only [execOp]; first | (go_simp; done) | (go_simp; rfl)) rfl
        case refine_2 =>
          have v0 : vals 0 = .bool true := hd 0 (by kernel_rfl)
          rw [v0]
          exact st_val rfl (by simp only [execOp]; first | (go_simp; done) | (go_simp; rfl)) rfl
        case refine_3 =>
          have v1 : vals 1 = .bool false := hd 1 (by kernel_rfl)
          rw [v1]
          exact st_val rfl (by simp only [execOp]; first | (go_simp; done) | (go_simp; rfl)) rfl
        case refine_4 =>
          have v2 : vals 2 = .bool false := hd 2 (by kernel_rfl)
          rw [v2]
          exact st_val rfl (by simp only [execOp]; first | (go_simp; done) | (go_simp; rfl)) rfl
        case refine_5 =>
          have v3 : vals 3 = .string v := hd 3 (by kernel_rfl)
          have v2 : vals 2 = .bool false := hd 2 (by kernel_rfl)
          rw [v3, v2]
          exact st_val rfl (by simp only [execOp]; first | (go_simp; done) | (go_simp; rfl)) rfl
        case refine_6 =>
          have v2 : vals 2 = .bool false := hd 2 (by kernel_rfl)
          have v4 : vals 4 = .bool false := hd 4 (by kernel_rfl)
          rw [v2, v4]
          exact st_val rfl (by simp only [execOp]; first | (go_simp; done) | (go_simp; rfl)) rfl
        case refine_7 =>
          have v5 : vals 5 = .bool false := hd 5 (by kernel_rfl)
          rw [v5]
          exact st_val rfl (by simp only [execOp]; first | (go_simp; done) | (go_simp; rfl)) rfl
        case refine_8 =>
          have v6 : vals 6 = .bool false := hd 6 (by kernel_rfl)
          rw [v6]
          exact st_val rfl (by simp only [execOp]; first | (go_simp; done) | (go_simp; rfl)) rfl
        case refine_9 =>
          have v7 : vals 7 = .int .i64 ((0 : Nat) : Int) := hd 7 (by kernel_rfl)
          have v6 : vals 6 = .bool false := hd 6 (by kernel_rfl)
          rw [v7, v6]
          exact st_val rfl (by simp only [execOp]; first | (go_simp; done) | (go_simp; rfl)) rfl
        case refine_10 =>
          have v8 : vals 8 = .bool false := hd 8 (by kernel_rfl)
          have v6 : vals 6 = .bool false := hd 6 (by kernel_rfl)
          rw [v8, v6]
          exact st_val rfl (by simp only [execOp]; first | (go_simp; done) | (go_simp; rfl)) rfl
        case refine_11 =>
          have v9 : vals 9 = .bool false := hd 9 (by kernel_rfl)
          rw [v9]
          exact st_pass rfl rfl
        case refine_12 =>
          have v9 : vals 9 = .bool false := hd 9 (by kernel_rfl)
          rw [v9]
          exact st_pass rfl rfl
        case refine_13 =>
          have v9 : vals 9 = .bool false := hd 9 (by kernel_rfl)
          rw [v9]
          exact st_pass rfl rfl
        case refine_14 =>
          have v9 : vals 9 = .bool false := hd 9 (by kernel_rfl)
          rw [v9]
          exact st_pass rfl rfl
        case refine_15 =>
          have v9 : vals 9 = .bool false := hd 9 (by kernel_rfl)
          rw [v9]
          exact st_pass rfl rfl
        case refine_16 =>
          have v9 : vals 9 = .bool false := hd 9 (by kernel_rfl)
          rw [v9]
          exact st_pass rfl rfl
        case refine_17 =>
          have v9 : vals 9 = .bool false := hd 9 (by kernel_rfl)
          rw [v9]
          exact st_pass rfl rfl
        case refine_18 =>
          have v9 : vals 9 = .bool false := hd 9 (by kernel_rfl)
          rw [v9]
          exact st_pass rfl rfl
        case refine_19 =>
          have v9 : vals 9 = .bool false := hd 9 (by kernel_rfl)
          rw [v9]
          exact st_pass rfl rfl
        case refine_20 =>
          have v9 : vals 9 = .bool false := hd 9 (by kernel_rfl)
          rw [v9]
          exact st_pass rfl rfl
        case refine_21 =>
          have v6 : vals 6 = .bool false := hd 6 (by kernel_rfl)
          have v9 : vals 9 = .bool false := hd 9 (by kernel_rfl)
          rw [v6, v9]
          exact st_val rfl (by simp only [execOp]; first | (go_simp; done) | (go_simp; rfl)) rfl
        case refine_22 =>
          have v6 : vals 6 = .bool false := hd 6 (by kernel_rfl)
          have v20 : vals 20 = .bool false := hd 20 (by kernel_rfl)
          rw [v6, v20]
          exact st_val rfl (by simp only [execOp]; first | (go_simp; done) | (go_simp; rfl)) rfl
        case refine_23 =>
          have v21 : vals 21 = .bool false := hd 21 (by omega)
          rw [v21]
          simp only [List.drop_succ_cons, List.drop_zero]
          have hcx := HRD.out W hM 0 hlt
          rw [HX.out] at hcx
          clear HO
          have HO := hM
          rcases n with _ | _
          · go_wp2
            go_roundw
            case rel => exact ⟨0 + 1, by omega, by go_num, by rw [HST.out, eqS]; rfl, HO⟩
            case measure => simp [intOf]; try omega
          · go_wp2
            go_roundw
            case rel => exact ⟨0 + 1, by omega, by go_num, by rw [HST.out]; rfl, HO⟩
            case measure => simp [intOf]; try omega
    · have hk12 : k = 12 := by omega
      have hi := inB_all name
      rw [← hk12] at hi
      rw [hi]
      clear hi
      go_wp2_with (first
          | (go_at_call 9; refine (look_calls name (lookB name).1 (lookB name).2 rfl _).mono ?_; rintro eN wN ⟨rfl, hbN⟩; have HON := HO.call hbN; clear HO hbN; have HO := HON; clear HON)
          | (go_at_call 18; refine (names20_calls _).mono ?_; rintro eN wN ⟨pN, cN, rfl, hbN⟩; have HON := HO.call hbN; clear HO hbN; have HO := HON; clear HON))
      go_ret
      exact ⟨by simp, HO.below⟩
end Go.Proofs.YtclnanhgcnopdaaDoor
end
