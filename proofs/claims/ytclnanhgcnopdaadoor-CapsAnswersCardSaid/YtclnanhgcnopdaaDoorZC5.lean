/- C: texts run together by shake.py: KitF WWords WLast WApart KitW NuB KitG1 WShare WN WMore NuD NuV Gx0 CaP KitG3 Gclavierref20a CaL CaH Gclavierref02a. -/
import Derived.ArgAppend
import Derived.Below
import Derived.BigQuiet
import Derived.Deep.AppendLies
import Derived.Deep.CutBlock
import Derived.Deep.DeepCutAuto
import Derived.Deep.DrawnRows
import Derived.Deep.Draws
import Derived.Deep.LoopGhost
import Derived.Deep.OwnRows
import Derived.Deep.Quiet
import Derived.Deep.QuietTactic
import Derived.Deep.RegionHeld3
import Derived.Ground.GgzProg
import Derived.KernelRfl
import Derived.Laws.AppendOwn
import Derived.Laws.AppendOwnNone
import Derived.Laws.BitsAllLaws
import Derived.Laws.BitsLemmas
import Derived.Laws.BytesArg
import Derived.Laws.CopyRow
import Derived.Laws.IdiomCopy
import Derived.Laws.IdiomStrings
import Derived.Laws.MakeOwn
import Derived.Laws.OwnMore
import Derived.Laws.RangeAny
import Derived.Laws.Rows
import Derived.Laws.Slices
import Derived.Laws.StructEq
import Derived.Laws.Tables
import Derived.Lib.AppendStr
import Derived.Lib.ConvBytes
import Derived.Lib.Hide
import Derived.Lib.ItoaNum
import Derived.Lib.OthersKept
import Derived.Lib.TrimU
import Derived.MapKept
import Derived.Maps.AppendAt
import Derived.Orders
import Derived.OrdersHeld
import Derived.OrdersIn
import Derived.Outline
import Derived.OwnWalk
import Derived.RangeFuncCalls
import Derived.RangeFuncNested
import Derived.RangeFuncWrites
import Derived.RowKit
import Derived.RowKit3
import Derived.Shelf.LaysM
import Derived.Shelf.SlIter.Nil
import Derived.Shelf.Slices.Empties2
import Derived.Shelf.Slices.Equal
import Derived.Shelf.Slices.In.SortNone
import Derived.Shelf.Small.Bits
import Derived.Shelf.Small.Strs
import Derived.Shelf.Small.Utf8
import Derived.Shelf.Sort.Plain
import Derived.Shelf.Strconv.Itoa0
import Derived.Shelf.Strings.Builder1
import Derived.Shelf.Strings.Builder2
import Derived.Shelf.Strings.Builder2Cap
import Derived.Shelf.Strings.BuilderCap
import Derived.Shelf.Strings.BuilderF
import Derived.Shelf.Strings.BuilderK
import Derived.Shelf.Strings.Cut
import Derived.Shelf.Strings.OnBuilder
import Derived.Shelf.Strings.Runes
import Derived.Shelf.Strings.Search1
import Derived.Shelf.Strings.Search2
import Derived.Shelf.Strings.Search3
import Derived.Shelf.Strings.Shaped
import Derived.Shelf.Unicode.Decode
import Derived.Shelf.Unicode.DecodeAny
import Derived.Shelf.Unicode.DecodeSlow
import Derived.Still
import Derived.Tactics
import Derived.TacticsIn
import Derived.Test.YtclnanhgcnopdaaDoorProg
import Derived.WalkKit
import Derived.WalkLawsBesides
import Derived.WalkSpells
import Derived.WideLaws
import Derived.Test.YtclnanhgcnopdaaDoorZC1
import Derived.Test.YtclnanhgcnopdaaDoorZC2
import Derived.Test.YtclnanhgcnopdaaDoorZC3
import Derived.Test.YtclnanhgcnopdaaDoorZC4
section
namespace Go.Proofs.YtclnanhgcnopdaaDoor.Kit
set_option linter.unusedVariables false
set_option linter.unusedSimpArgs false
open Go Go.RowKit
theorem sizeAlloc' (w : World) (o : Obj) : (w.alloc o).heap.size = w.heap.size + 1 := by
  show (w.heap.push o).size = _
  simp
end Go.Proofs.YtclnanhgcnopdaaDoor.Kit
end
section
set_option linter.unusedVariables false
set_option linter.unusedSimpArgs false
namespace Go.Proofs.YtclnanhgcnopdaaDoorW.PrintWords
open Go.RowKit
theorem own_nil (W : World) (base : Nat) (e : TypeId) (size : Nat) : W.ownsRow base e size (.slice none 0 0) 0 [] := ⟨by simp, .inl ⟨rfl, rfl⟩⟩
theorem add_field (ad : Addr) (m j : Nat) (hj : 0 < j) : ad.add (m + j) = ⟨(ad.add m).block, (ad.add m).off + j, none⟩ := by
  unfold Addr.add
  by_cases hm : m = 0
  · subst hm
    simp [Nat.ne_of_gt hj]
  · simp [hm, Nat.add_assoc]
theorem Ev.congr {α : Type} {g f : Nat → Option α} {r : α} (h : ∀ k, g k = f k) (k : Ev f r) : Ev g r := by
  obtain ⟨K, k⟩ := k
  exact ⟨K, fun n hn => (h n).trans (k n hn)⟩
section
variable {α : Type} {R R' : α → List Value → Prop} {e : TypeId} {size : Nat} {w w1 : World} {base : Nat} {v : Value} {ps : List α}
theorem OwnRow.none_ (R : α → List Value → Prop) (e : TypeId) (size : Nat) (w : World) (base : Nat) : OwnRow R e size w base (.slice none 0 0) [] := ⟨[], own_nil _ _ _ _, Reps.none _ _⟩
end
namespace Kd
section
variable {α : Type} {d : Kd α} {e : Nat} {w w1 : World} {base : Nat} {ok ok' : Nat → Prop} {v : Value} {xs : List α}
theorem R_nil (d : Kd α) (e : Nat) (w : World) (base : Nat) (ok : Nat → Prop) : d.R e w base ok (.slice none 0 0) [] := ⟨fun k hk => by simp [Value.ownBlock] at hk, OwnRow.none_ _ _ _ _ _⟩
theorem R_step (h : d.R e w base ok v xs) (hm : ∀ k, ok k → k < w.heap.size → w1.heap[k]? = w.heap[k]?) : d.R e w1 base ok v xs :=
  R_mono (R_move (R_bound h) (fun k hk => hm k hk.1 hk.2.2.1)) (fun _ hk => hk.1)
theorem M_step {x : α} {cs : List Value} (h : d.M w base ok x cs) (hm : ∀ k, ok k → k < w.heap.size → w1.heap[k]? = w.heap[k]?) : d.M w1 base ok x cs :=
  d.M_mono (fun _ hk => hk.1) (d.M_move (fun k hk => hm k hk.1 hk.2.2.1) (d.M_bound h))
theorem R_below (h : d.R e w base ok v xs) (hb : Below w.heap.size w w1) : d.R e w1 base ok v xs := R_step h (fun k _ hk => hb.block k hk)
theorem M_below {x : α} {cs : List Value} (h : d.M w base ok x cs) (hb : Below w.heap.size w w1) : d.M w1 base ok x cs := M_step h (fun k _ hk => hb.block k hk)
theorem R_slice (h : d.R e w base ok v xs) : ∃ A c, v = .slice A xs.length c := by
  obtain ⟨A, c, he, _⟩ := R_reads h
  exact ⟨A, c, he⟩
end
def pair {α β : Type} (a : Kd α) (b : Kd β) : Kd (α × β) where
  sz := a.sz + b.sz
  E := a.E ++ b.E
  K := fun w x cs => ∃ c0 c1, cs = c0 ++ c1 ∧ a.K w x.1 c0 ∧ b.K w x.2 c1
  M := fun w base ok x cs => ∃ c0 c1, cs = c0 ++ c1 ∧ a.M w base ok x.1 c0 ∧ b.M w base ok x.2 c1
  K_len := by
    rintro w x cs ⟨c0, c1, rfl, h0, h1⟩
    rw [List.length_append, a.K_len h0, b.K_len h1]
  K_one := by
    rintro w x cs ⟨c0, c1, rfl, h0, h1⟩ u hu
    rcases List.mem_append.1 hu with hu | hu
    · exact a.K_one h0 u hu
    · exact b.K_one h1 u hu
  K_below := by
    rintro w w1 x cs hb ⟨c0, c1, rfl, h0, h1⟩
    exact ⟨c0, c1, rfl, a.K_below hb h0, b.K_below hb h1⟩
  K_of_M := by
    rintro w base ok x cs ⟨c0, c1, rfl, h0, h1⟩
    exact ⟨c0, c1, rfl, a.K_of_M h0, b.K_of_M h1⟩
  M_mono := by
    rintro w base ok ok' x cs hok ⟨c0, c1, rfl, h0, h1⟩
    exact ⟨c0, c1, rfl, a.M_mono hok h0, b.M_mono hok h1⟩
  M_bound := by
    rintro w base ok x cs ⟨c0, c1, rfl, h0, h1⟩
    refine ⟨c0, c1, rfl, a.M_mono ?_ (a.M_bound h0), b.M_mono ?_ (b.M_bound h1)⟩
    · rintro k ⟨h2, h3, h4, q, hq, hc⟩
      exact ⟨h2, h3, h4, q, List.mem_append_left _ hq, hc⟩
    · rintro k ⟨h2, h3, h4, q, hq, hc⟩
      exact ⟨h2, h3, h4, q, List.mem_append_right _ hq, hc⟩
  M_move := by
    rintro w w1 base ok x cs hm ⟨c0, c1, rfl, h0, h1⟩
    exact ⟨c0, c1, rfl, a.M_move hm h0, b.M_move hm h1⟩
  M_lower := by
    rintro w base base' ok x cs hb ⟨c0, c1, rfl, h0, h1⟩
    exact ⟨c0, c1, rfl, a.M_lower hb h0, b.M_lower hb h1⟩
def iso {α β : Type} (d : Kd α) (f : β → α) : Kd β where
  sz := d.sz
  E := d.E
  K := fun w x cs => d.K w (f x) cs
  M := fun w base ok x cs => d.M w base ok (f x) cs
  K_len := d.K_len
  K_one := d.K_one
  K_below := d.K_below
  K_of_M := d.K_of_M
  M_mono := d.M_mono
  M_bound := d.M_bound
  M_move := d.M_move
  M_lower := d.M_lower
theorem R_appended {α : Type} {d : Kd α} {e base : Nat} {ok okp : Nat → Prop} {W w1 : World} {v v1 : Value} {xs : List α} {p : α} {inner cs : List Value} (h0 : ∀ k, v.ownBlock = some k → ok k) (hr : Reps (d.M W base (fun k => ok k ∧ some k ≠ v.ownBlock)) d.sz xs inner) (hp : d.M W base okp p cs) (hokp : ∀ k, okp k → ok k ∧ some k ≠ v.ownBlock) (hfresh : ∀ k, W.heap.size ≤ k → ok k)
    (hown : w1.ownsRow base e d.sz v1 (xs.length + 1) (inner ++ cs)) (hg : W.grownBy w1 v.ownBlock) (hat : v1.ownBlock = v.ownBlock ∨ ∃ b, v1.ownBlock = some b ∧ W.heap.size ≤ b) : d.R e w1 base ok v1 (xs ++ [p]) := by
  have hne : ∀ k, some k ≠ v.ownBlock → k < W.heap.size → some k ≠ v1.ownBlock := by
    intro k hk hlt
    rcases hat with hat | ⟨b, hb, hle⟩
    · rw [hat]; exact hk
    · rw [hb]
      intro he
      injection he with he
      omega
  have step : ∀ {q : α} {c : List Value} {o : Nat → Prop}, d.M W base o q c → (∀ k, o k → ok k ∧ some k ≠ v.ownBlock) → d.M w1 base (fun k => ok k ∧ some k ≠ v1.ownBlock) q c := by
    intro q c o hq ho
    have h1 := d.M_move (w1 := w1) (fun k hk => hg.block k hk.2.2.1 (ho k hk.1).2) (d.M_bound hq)
    exact d.M_mono (fun k hk => ⟨(ho k hk.1).1, hne k (ho k hk.1).2 hk.2.2.1⟩) h1
  refine ⟨fun k hk => ?_, inner ++ cs, by rw [List.length_append, List.length_singleton]; exact hown, ?_⟩
  · rcases hat with hat | ⟨b, hb, hle⟩
    · exact h0 k (hat ▸ hk)
    · rw [hb] at hk
      injection hk with hk
      exact hfresh k (by omega)
  · exact (hr.imp_ (fun _ _ hq => step hq (fun _ hk => hk))).snoc (step hp hokp) (d.K_len (d.K_of_M hp))
section
variable {P : Program} {ops : Array Oper} {rest : List Oper} {o : Oper} {a : Act} {Q : Exit → Act → World → Prop} {α : Type}
theorem R_append (d : Kd α) {w0 W : World} (base : Nat) (hgd : o.guard = none) (s x : Operand) (t e : TypeId) (z : Value) (bytes : Nat)
    (ho : o.op = .call { callee := .builtin .append, args := #[s, x], argTypes := #[t, t] })
    (ht : P.underlying t = some (.slice e)) (hinfo : (P.info? e).map (fun i => (i.zero, i.size, i.bytes)) = some (some z, d.sz, bytes)) (hz : z.cells.size = d.sz) (hs0 : 0 < d.sz) (hb0 : 0 < bytes)
    (v : Value) (xs : List α) (p : α) (cs : List Value) (ok okp : Nat → Prop) (hs : a.eval s = v) (hx : a.eval x = .slice (some ⟨W.heap.size, 0, none⟩) 1 1) (hp : d.M W base okp p cs) (hokp : ∀ k, okp k → ok k ∧ some k ≠ v.ownBlock) (hfresh : ∀ k, W.heap.size ≤ k → ok k)
    (HO : d.R e W base ok v xs) (HB : Below base w0 W) (hbase : base ≤ W.heap.size) (hl : (xs.length + 1) * bytes ≤ 140737488355328)
    (h : ∀ v1 w1, d.R e w1 base ok v1 (xs ++ [p]) → Below base w0 w1 → W.grownBy w1 v.ownBlock → (v1.ownBlock = v.ownBlock ∨ ∃ b, v1.ownBlock = some b ∧ W.heap.size ≤ b) → wpList P ops Q rest (a.put o.dst v1) w1) :
    wpList P ops Q (o :: rest) a (W.alloc (.cells cs.toArray e)) := by
  obtain ⟨h0, inner, hown, hr⟩ := HO
  refine print_append_cells base hgd s x t e z d.sz bytes ho ht hinfo hz hs0 hb0 v xs.length inner cs hs hx (d.K_len (d.K_of_M hp)) (d.K_one (d.K_of_M hp)) hown HB hbase hl ?_
  intro v1 w1 hown1 hb1 hg1 hat1
  exact h v1 w1 (R_appended h0 hr hp hokp hfresh hown1 hg1 hat1) hb1 hg1 hat1
end
end Kd
namespace Kd
section
variable {α β : Type} {d : Kd α} {d' : Kd β} {e e' : Nat} {w w1 W : World} {base b b' : Nat} {ok ok' okv oku : Nat → Prop} {v u : Value} {xs : List α} {ys : List β}
theorem R_alloc (h : d.R e w base ok v xs) (o : Obj) : d.R e (w.alloc o) base ok v xs := R_below h (below_alloc (Below.refl _ _) o)
theorem R_drew (h : d.R e w base ok v xs) : d.R e w.drew base ok v xs := R_below h (below_drew (Below.refl _ _))
theorem R_drewN (h : d.R e w base ok v xs) (m : Nat) : d.R e (w.drewN m) base ok v xs := R_below h (pw_below_drewN (Below.refl _ _) m)
theorem C_nil (d : Kd α) (w : World) : d.C w none ([] : List α).length [] := ⟨rfl, by simp, fun h => absurd h (Nat.lt_irrefl 0)⟩
theorem R_reads' {A : Option Addr} {n c : Nat} (h : d.R e w base ok (.slice A n c) xs) : n = xs.length ∧ n ≤ c ∧ d.C w A xs.length xs := by
  obtain ⟨A', c', he, hl, hr⟩ := R_reads h
  injection he with h1 h2 h3
  subst h1
  exact ⟨h2, by omega, hr⟩
end
section
variable {P : Program} {ops : Array Oper} {rest : List Oper} {o : Oper} {a : Act} {Q : Exit → Act → World → Prop}
variable {α : Type}
theorem R_lit (d : Kd α) {w0 W : World} (base e : Nat) (hgd : o.guard = none) {N : Tmp} (_hd : o.dst = some N) {xs : List α} {inner : List Value} {ok okp : Nat → Prop}
    (hrun : (execOp a.eval o).run P W = .ok (.value (.slice (some ⟨W.heap.size, 0, none⟩) xs.length xs.length)) (W.alloc (.cells inner.toArray e)))
    (hrep : Reps (d.M W base okp) d.sz xs inner) (hok : ∀ k, okp k → ok k) (hfresh : ok W.heap.size) (HB : Below base w0 W) (hbase : base ≤ W.heap.size) (hm : xs.length ≤ 9223372036854775807)
    (h : ∀ v1 w1, d.R e w1 base ok v1 xs → Below base w0 w1 → W.grownBy w1 none → (∃ b, v1.ownBlock = some b ∧ W.heap.size ≤ b) → wpList P ops Q rest (a.put o.dst v1) w1) : wpList P ops Q (o :: rest) a W := by
  refine event_run hgd hrun (h _ _ ⟨fun k hk => ?_, inner, ?_, ?_⟩ (HB.alloc hbase _) (World.grownBy_alloc W _ none) ⟨W.heap.size, by simp [Value.ownBlock], Nat.le_refl _⟩)
  · have : W.heap.size = k := by simpa [Value.ownBlock] using hk
    subst this
    exact hfresh
  · have h2 := World.ownsRow_lit (base := base) (e := e) (size := d.sz) W inner.toArray xs.length hbase (by simpa [maxLen] using hm) (by simpa using hrep.1)
    simpa using h2
  · refine hrep.imp_ (fun p c hp => d.M_mono (fun k hk => ⟨hok k hk.1, fun he => ?_⟩) (M_below (d.M_bound hp) (below_alloc (Below.refl _ _) _)))
    have h3 : k = W.heap.size := by simpa [Value.ownBlock] using he
    have := hk.2.2.1
    omega
end
end Kd
section
variable {w w1 : World} {base n size : Nat} {e : TypeId} {v : Value} {xs : List Value}
theorem q_of_own (h : w.ownsRow base e size v n xs) : QRow w base e size v n xs := by
  obtain ⟨h1, h2⟩ := h
  refine ⟨h1, ?_⟩
  rcases h2 with ⟨rfl, h0⟩ | ⟨g, cap, cur, rfl, hb, hh, hnc, hcm, hcs, ht⟩
  · exact .inl ⟨h0, none, rfl, fun a ha => by cases ha⟩
  · exact .inr ⟨g, 0, cap, cur, by rw [Nat.zero_mul], hb, hh, hnc, by rw [Nat.zero_add]; exact hcm, by rw [Nat.zero_add]; exact hcs, by rw [Nat.zero_mul, List.drop_zero]; exact ht⟩
end
namespace Kd
section
variable {α : Type} {d : Kd α} {e : Nat} {w w1 W : World} {base : Nat} {ok ok' : Nat → Prop} {v : Value} {xs : List α}
theorem Q_of_R (h : d.R e w base ok v xs) : d.Q e w base ok v xs := by
  obtain ⟨h0, inner, ho, hr⟩ := h
  exact ⟨h0, inner, q_of_own ho, hr⟩
theorem Q_nil (d : Kd α) (e : Nat) (w : World) (base : Nat) (ok : Nat → Prop) : d.Q e w base ok (.slice none 0 0) [] := Q_of_R (R_nil d e w base ok)
end
end Kd
end Go.Proofs.YtclnanhgcnopdaaDoorW.PrintWords
end
section
namespace Go.Proofs.YtclnanhgcnopdaaDoorW.PrintLast
section
variable {P : Program} {ops : Array Oper} {Q : Exit → Act → World → Prop} {md : Region.Mode} {S : World → Prop} {ds : List Nat}
theorem enters_ {f : FuncId} {fn : Func} (hf : P.funcs[f]? = some fn) (hname : (fn.name == "runtime.NumGoroutine") = false) (hb : fn.body.isSome = true) (args : Array Value) (w : World) : (callFunc f args).run P w = .ok (.enter f args) w := by
  have h1 : fn.name ≠ "runtime.NumGoroutine" := by simpa using hname
  obtain ⟨c, hc⟩ := Option.isSome_iff_exists.1 hb
  simp [callFunc, hf, h1, hc]
theorem goesL_ {rest : List Oper} {oi : Oper} {a : Act} {w : World} (N : Option Tmp) (hd : oi.dst = N) (hg : oi.guard = none) {f : FuncId} {fn : Func} {as1 : Array Operand} {ts : Array TypeId} (hf : P.funcs[f]? = some fn) (hname : (fn.name == "runtime.NumGoroutine") = false) (hb : fn.body.isSome = true) (args : Array Value)
    (hop : oi.op = .call { callee := .value (.func f), args := as1, argTypes := ts }) (hargs : as1.map a.eval = args)
    (h : Calls P f args w fun e w' => ∃ v, e = .returned v ∧ wpList P ops Q rest (a.put N v) w') : wpList P ops Q (oi :: rest) a w := by
  refine wpList_plain hg fun K hK => ?_
  have he := enters_ hf hname hb args w
  have hrun : (execOp a.eval oi).run P w = .ok (.enter f args) w := by
    unfold execOp
    simp [hop, resolve, Deferred.ofValue, invoke, Act.eval, hargs, he]
  unfold Oper.wp
  rw [hrun, Oper.upon_enter]
  refine h.mono fun e w'' hh => ?_
  obtain ⟨v, rfl, hk⟩ := hh
  subst hd
  exact hK _ _ hk
end
end Go.Proofs.YtclnanhgcnopdaaDoorW.PrintLast
end
section
namespace Go.Proofs.YtclnanhgcnopdaaDoorW.PrintWords
open Go.RowKit
namespace Kd
section
variable {α β : Type} {d : Kd α} {d' : Kd β} {e e' : Nat} {w w1 W : World} {base b : Nat} {ok ok' okv oku : Nat → Prop} {u v : Value} {xs : List α} {ys : List β}
theorem S_nil (d : Kd α) (e : Nat) (w : World) (base : Nat) (ok : Nat → Prop) : S d e w base ok (.slice none 0 0) [] := ⟨fun _ => 0, R_nil _ _ _ _ _⟩
end
end Kd
end Go.Proofs.YtclnanhgcnopdaaDoorW.PrintWords
end
section
namespace Go.Proofs.YtclnanhgcnopdaaDoor.Kit
set_option linter.unusedVariables false
set_option linter.unusedSimpArgs false
open Go Go.RowKit
variable {P : Program} {w : World}
theorem run_row_of {src dst e : TypeId} {s : ByteArray} (hs : P.underlying src = some .string) (hd : P.underlying dst = some (.slice e)) (he : P.underlying e = some (.int .u8)) (w : World) :
    ∃ c w', (convert src dst (.string s)).run P w = .ok (.slice (some ⟨w.heap.size, 0, none⟩) s.size c) w' ∧ Below w.heap.size w w' ∧ Row w' w.heap.size s.size c e s.data.toList := by
  have hc := grownCap_ge w s.size 0 e
  have hl : (s.data.toList.map byV).length = s.size := by rw [List.length_map, Array.length_toList]; rfl
  have hsz : (bytesRow s (grownCap w s.size 0 e)).size = grownCap w s.size 0 e := by
    simp only [bytesRow, Array.size_append, Array.size_map, Array.size_replicate]
    have : s.data.size = s.size := rfl
    omega
  refine ⟨_, _, run_bytes_of_string w src dst e s hs hd he, ((Below.refl _ w).drew).alloc (Nat.le_refl _) _, bytesRow s (grownCap w s.size 0 e), _, heap_alloc_new w.drew _, hsz, by rw [hsz]; exact Nat.le_refl _, hc, ?_⟩
  rw [← hl]
  simp only [bytesRow, Array.toList_append, Array.toList_map]
  exact List.take_left
end Go.Proofs.YtclnanhgcnopdaaDoor.Kit
end
section
namespace Go.Proofs.YtclnanhgcnopdaaDoor
set_option linter.unusedVariables false
set_option linter.unusedSimpArgs false
open Go.RowKit Kit
attribute [local irreducible] wpList Calls wpQuiet
set_option maxHeartbeats 800000 in
theorem refValue_calls (c : UInt8) (w : World) : Calls Tryd.prog 47 #[.int .u8 (c.toNat : Int)] w fun e w' => e = .returned (.int .i64 (valU c)) ∧ w' = w := by
  have hc := c.toNat_lt
  have hs : (0 ≤ c.toNat ∧ c.toNat < 48) ∨ (48 ≤ c.toNat ∧ c.toNat < 58) ∨ (58 ≤ c.toNat ∧ c.toNat < 65) ∨ (65 ≤ c.toNat ∧ c.toNat < 71) ∨ (71 ≤ c.toNat ∧ c.toNat < 97) ∨ (97 ≤ c.toNat ∧ c.toNat < 103) ∨ (103 ≤ c.toNat ∧ c.toNat < 256) := by omega
  rcases hs with ⟨h1, h2⟩ | ⟨h1, h2⟩ | ⟨h1, h2⟩ | ⟨h1, h2⟩ | ⟨h1, h2⟩ | ⟨h1, h2⟩ | ⟨h1, h2⟩
  · have HV : Hid (valU c = -1) := Lib.hid (by unfold valU; rw [if_neg (by omega), if_neg (by omega), if_neg (by omega)])
    have b0 : decide ((48 : Int) ≤ (c.toNat : Int)) = false := decide_eq_false (by omega)
    have b1 : decide ((c.toNat : Int) ≤ 57) = true := decide_eq_true (by omega)
    have b2 : decide ((65 : Int) ≤ (c.toNat : Int)) = false := decide_eq_false (by omega)
    have b3 : decide ((c.toNat : Int) ≤ 70) = true := decide_eq_true (by omega)
    have b4 : decide ((97 : Int) ≤ (c.toNat : Int)) = false := decide_eq_false (by omega)
    have b5 : decide ((c.toNat : Int) ≤ 102) = true := decide_eq_true (by omega)
    have g1 : (0 : Int) ≤ (c.toNat : Int) := by omega
    have g2 : (c.toNat : Int) < 48 := by omega
    clear h1 h2 hc
    go_enter Tryd.func47, Tryd.ntmps47
    go_wp2
    go_ret
    exact ⟨retI (by rw [HV.out]; try omega), rfl⟩
  · have HV : Hid (valU c = (c.toNat : Int) - 48) := Lib.hid (by unfold valU; rw [if_pos (by omega)])
    have b0 : decide ((48 : Int) ≤ (c.toNat : Int)) = true := decide_eq_true (by omega)
    have b1 : decide ((c.toNat : Int) ≤ 57) = true := decide_eq_true (by omega)
    have b2 : decide ((65 : Int) ≤ (c.toNat : Int)) = false := decide_eq_false (by omega)
    have b3 : decide ((c.toNat : Int) ≤ 70) = true := decide_eq_true (by omega)
    have b4 : decide ((97 : Int) ≤ (c.toNat : Int)) = false := decide_eq_false (by omega)
    have b5 : decide ((c.toNat : Int) ≤ 102) = true := decide_eq_true (by omega)
    have g1 : (48 : Int) ≤ (c.toNat : Int) := by omega
    have g2 : (c.toNat : Int) < 58 := by omega
    clear h1 h2 hc
    go_enter Tryd.func47, Tryd.ntmps47
    go_wp2
    go_ret
    exact ⟨retI (by rw [HV.out]; try omega), rfl⟩
  · have HV : Hid (valU c = -1) := Lib.hid (by unfold valU; rw [if_neg (by omega), if_neg (by omega), if_neg (by omega)])
    have b0 : decide ((48 : Int) ≤ (c.toNat : Int)) = true := decide_eq_true (by omega)
    have b1 : decide ((c.toNat : Int) ≤ 57) = false := decide_eq_false (by omega)
    have b2 : decide ((65 : Int) ≤ (c.toNat : Int)) = false := decide_eq_false (by omega)
    have b3 : decide ((c.toNat : Int) ≤ 70) = true := decide_eq_true (by omega)
    have b4 : decide ((97 : Int) ≤ (c.toNat : Int)) = false := decide_eq_false (by omega)
    have b5 : decide ((c.toNat : Int) ≤ 102) = true := decide_eq_true (by omega)
    have g1 : (58 : Int) ≤ (c.toNat : Int) := by omega
    have g2 : (c.toNat : Int) < 65 := by omega
    clear h1 h2 hc
    go_enter Tryd.func47, Tryd.ntmps47
    go_wp2
    go_ret
    exact ⟨retI (by rw [HV.out]; try omega), rfl⟩
  · have HV : Hid (valU c = (c.toNat : Int) - 55) := Lib.hid (by unfold valU; rw [if_neg (by omega), if_pos (by omega)])
    have b0 : decide ((48 : Int) ≤ (c.toNat : Int)) = true := decide_eq_true (by omega)
    have b1 : decide ((c.toNat : Int) ≤ 57) = false := decide_eq_false (by omega)
    have b2 : decide ((65 : Int) ≤ (c.toNat : Int)) = true := decide_eq_true (by omega)
    have b3 : decide ((c.toNat : Int) ≤ 70) = true := decide_eq_true (by omega)
    have b4 : decide ((97 : Int) ≤ (c.toNat : Int)) = false := decide_eq_false (by omega)
    have b5 : decide ((c.toNat : Int) ≤ 102) = true := decide_eq_true (by omega)
    have g1 : (65 : Int) ≤ (c.toNat : Int) := by omega
    have g2 : (c.toNat : Int) < 71 := by omega
    clear h1 h2 hc
    go_enter Tryd.func47, Tryd.ntmps47
    go_wp2
    go_ret
    exact ⟨retI (by rw [HV.out]; try omega), rfl⟩
  · have HV : Hid (valU c = -1) := Lib.hid (by unfold valU; rw [if_neg (by omega), if_neg (by omega), if_neg (by omega)])
    have b0 : decide ((48 : Int) ≤ (c.toNat : Int)) = true := decide_eq_true (by omega)
    have b1 : decide ((c.toNat : Int) ≤ 57) = false := decide_eq_false (by omega)
    have b2 : decide ((65 : Int) ≤ (c.toNat : Int)) = true := decide_eq_true (by omega)
    have b3 : decide ((c.toNat : Int) ≤ 70) = false := decide_eq_false (by omega)
    have b4 : decide ((97 : Int) ≤ (c.toNat : Int)) = false := decide_eq_false (by omega)
    have b5 : decide ((c.toNat : Int) ≤ 102) = true := decide_eq_true (by omega)
    have g1 : (71 : Int) ≤ (c.toNat : Int) := by omega
    have g2 : (c.toNat : Int) < 97 := by omega
    clear h1 h2 hc
    go_enter Tryd.func47, Tryd.ntmps47
    go_wp2
    go_ret
    exact ⟨retI (by rw [HV.out]; try omega), rfl⟩
  · have HV : Hid (valU c = (c.toNat : Int) - 87) := Lib.hid (by unfold valU; rw [if_neg (by omega), if_neg (by omega), if_pos (by omega)])
    have b0 : decide ((48 : Int) ≤ (c.toNat : Int)) = true := decide_eq_true (by omega)
    have b1 : decide ((c.toNat : Int) ≤ 57) = false := decide_eq_false (by omega)
    have b2 : decide ((65 : Int) ≤ (c.toNat : Int)) = true := decide_eq_true (by omega)
    have b3 : decide ((c.toNat : Int) ≤ 70) = false := decide_eq_false (by omega)
    have b4 : decide ((97 : Int) ≤ (c.toNat : Int)) = true := decide_eq_true (by omega)
    have b5 : decide ((c.toNat : Int) ≤ 102) = true := decide_eq_true (by omega)
    have g1 : (97 : Int) ≤ (c.toNat : Int) := by omega
    have g2 : (c.toNat : Int) < 103 := by omega
    clear h1 h2 hc
    go_enter Tryd.func47, Tryd.ntmps47
    go_wp2
    go_ret
    exact ⟨retI (by rw [HV.out]; try omega), rfl⟩
  · have HV : Hid (valU c = -1) := Lib.hid (by unfold valU; rw [if_neg (by omega), if_neg (by omega), if_neg (by omega)])
    have b0 : decide ((48 : Int) ≤ (c.toNat : Int)) = true := decide_eq_true (by omega)
    have b1 : decide ((c.toNat : Int) ≤ 57) = false := decide_eq_false (by omega)
    have b2 : decide ((65 : Int) ≤ (c.toNat : Int)) = true := decide_eq_true (by omega)
    have b3 : decide ((c.toNat : Int) ≤ 70) = false := decide_eq_false (by omega)
    have b4 : decide ((97 : Int) ≤ (c.toNat : Int)) = true := decide_eq_true (by omega)
    have b5 : decide ((c.toNat : Int) ≤ 102) = false := decide_eq_false (by omega)
    have g1 : (103 : Int) ≤ (c.toNat : Int) := by omega
    have g2 : (c.toNat : Int) < 256 := by omega
    clear h1 h2 hc
    go_enter Tryd.func47, Tryd.ntmps47
    go_wp2
    go_ret
    exact ⟨retI (by rw [HV.out]; try omega), rfl⟩
theorem figure16_calls (n : Nat) (hn : n < 16) (w : World) : Calls Tryd.prog 34 #[.int .i64 (n : Int)] w fun e w' => e = .returned (.int .u8 ((figV n).toNat : Int)) ∧ w' = w := by
  by_cases h : n < 10
  · have HV : Hid (((figV n).toNat : Int) = 48 + n) := Lib.hid (by unfold figV; rw [if_pos h]; simp; omega)
    have b1 : decide ((n : Int) < 10) = true := decide_eq_true (by omega)
    go_enter Tryd.func34, Tryd.ntmps34
    go_wp2
    go_ret
    exact ⟨retI (by rw [HV.out]; try omega), rfl⟩
  · have HV : Hid (((figV n).toNat : Int) = 55 + n) := Lib.hid (by unfold figV; rw [if_neg h]; simp; omega)
    have b1 : decide ((n : Int) < 10) = false := decide_eq_false (by omega)
    go_enter Tryd.func34, Tryd.ntmps34
    go_wp2
    go_ret
    exact ⟨retI (by rw [HV.out]; try omega), rfl⟩
end Go.Proofs.YtclnanhgcnopdaaDoor
end
section
namespace Go.Proofs.YtclnanhgcnopdaaDoor.Kit
set_option linter.unusedVariables false
set_option linter.unusedSimpArgs false
open Go Go.RowKit Go.Proofs.YtclnanhgcnopdaaDoorW.PrintWords
section
variable {P : Program} {ops : Array Oper} {Q : Exit → Act → World → Prop} {a : Act} {w W0 : World} {rest : List Oper} {o : Oper} {bs b0 R : Res} {cs : List Value} {T : TypeId} {v : Value}
theorem GRow.of_own {xs : List Value} {n : Nat} {w' : World} (h : w'.ownsRow w.heap.size T 1 v n xs) (hb : Below w.heap.size w w') : ∃ R, GRow T v xs R ∧ Mine w w' R := by
  obtain ⟨h0, h⟩ := h
  have hn : xs.length = n := by omega
  subst hn
  rcases h with ⟨h, h1⟩ | ⟨g, cap, cur, h1, h2, h3, h4, h5, h6, h7⟩
  · exact ⟨[], .inl ⟨h, List.eq_nil_of_length_eq_zero h1, rfl⟩, ⟨hb, List.nodup_nil, by simp⟩⟩
  · refine ⟨[(g, IsCells cur.toList T)], .inr ⟨g, cap, cur.toList, h1, h4, h5, by simp; omega, by rw [Nat.mul_one] at h7; simpa using h7, rfl⟩, ⟨hb, by simp, fun q hq => ?_⟩⟩
    rw [List.mem_singleton.1 hq]
    exact ⟨h2, _, h3, by simp [IsCells]⟩
end
end Go.Proofs.YtclnanhgcnopdaaDoor.Kit
end
section
namespace Go.Proofs.YtclnanhgcnopdaaDoorW.PrintWords
open Go.RowKit
namespace Kd
section
variable {α β : Type} {d : Kd α} {e base n n' cc g N : Nat} {ok ok' okp S : Nat → Prop} {w w0 w1 W W1 : World} {A A' : Option Addr} {u v v1 : Value} {xs : List α} {xs' : List β} {d' : Kd β} {x : α} {c : List Value}
theorem F_nil (d : Kd α) (W : World) (ok : Nat → Prop) : F d W ok none ([] : List α).length [] := fun W' _ => C_nil d W'
theorem FK_of_M (h : d.M W base ok x c) : FK d W ok x c := fun _ hW => d.K_of_M (M_step h hW)
end
end Kd
end Go.Proofs.YtclnanhgcnopdaaDoorW.PrintWords
end
section
namespace Go.Proofs.YtclnanhgcnopdaaDoorW.PrintWords
open Go.RowKit
namespace Kd
def chunks (sz : Nat) (n : Nat) (inner : List Value) : List (List Value) := (List.range n).map fun j => (inner.drop (j * sz)).take sz
theorem chunks_length (sz n : Nat) (inner : List Value) : (chunks sz n inner).length = n := by simp [chunks]
theorem chunks_at {sz n : Nat} {inner : List Value} {j : Nat} (hj : j < n) : (chunks sz n inner)[j]? = some ((inner.drop (j * sz)).take sz) := by simp [chunks, hj]
theorem chunks_get {sz n : Nat} {inner : List Value} {j : Nat} {c : List Value} (h : (chunks sz n inner)[j]? = some c) : c = (inner.drop (j * sz)).take sz := by
  have hj : j < n := by have := (List.getElem?_eq_some_iff.1 h).1; rwa [chunks_length] at this
  rw [chunks_at hj] at h
  injection h with h
  exact h.symm
theorem reps_raw {α : Type} {Rr : α → List Value → Prop} {sz : Nat} {xs : List α} {inner : List Value} (h : Reps Rr sz xs inner) (hR : ∀ x c, Rr x c → c.length = sz ∧ ∀ u ∈ c, u.oneCell' = true) : Reps (fun x cs => cs = x ∧ cs.length = sz ∧ ∀ u ∈ cs, u.oneCell' = true) sz (chunks sz xs.length inner) inner := by
  refine ⟨by rw [chunks_length]; exact h.1, fun j p hj => ?_⟩
  have hjl : j < xs.length := by have := (List.getElem?_eq_some_iff.1 hj).1; rwa [chunks_length] at this
  have hp := chunks_get hj
  exact ⟨hp.symm, hR _ _ (h.2 j _ (List.getElem?_eq_getElem hjl))⟩
section
variable {α : Type} {d : Kd α} {e base n cc g : Nat} {ok ok' okp S : Nat → Prop} {w w1 W W1 : World} {A : Option Addr} {u v v1 : Value} {xs : List α} {x : α} {c : List Value}
theorem R_N (h : d.R e w base ok v xs) : N d e w base ok v xs := by
  obtain ⟨h0, inner, ho, hr⟩ := h
  refine ⟨h0, chunks d.sz xs.length inner, chunks_length _ _ _, ⟨fun k hk => hk.symm, inner, by rw [chunks_length]; exact ho, reps_raw hr (fun x c hp => ⟨d.K_len (d.K_of_M hp), d.K_one (d.K_of_M hp)⟩)⟩, fun j x c hx hc => ?_⟩
  rw [chunks_get hc]
  exact FK_of_M (hr.2 j x hx)
theorem N_nil (d : Kd α) (e : Nat) (w : World) (base : Nat) (ok : Nat → Prop) : N d e w base ok (.slice none 0 0) [] := R_N (R_nil _ _ _ _ _)
end
end Kd
end Go.Proofs.YtclnanhgcnopdaaDoorW.PrintWords
end
section
open Go.RowKit Go.Proofs.YtclnanhgcnopdaaDoorW.PrintWords
open Go.Proofs.YtclnanhgcnopdaaDoorW.PrintWords.Kd
open Go.Proofs.YtclnanhgcnopdaaDoorW.PrintWords.Kd
namespace Go.Proofs.YtclnanhgcnopdaaDoorW.PrintWords
open Go.RowKit
section
variable {P : Program} {ops : Array Oper} {rest : List Oper} {o : Oper} {a : Act} {Q : Exit → Act → World → Prop} {W : World}
theorem gate_callee {f : FuncId} {as1 : Array Operand} {ts : Array TypeId} (_ho : o.op = .call { callee := .value (.func f), args := as1, argTypes := ts }) (h : wpList P ops Q (o :: rest) a W) : wpList P ops Q (o :: rest) a W := h
theorem gate_builtin {b : Builtin} {xs : Array Operand} {ts : Array TypeId} (_ho : o.op = .call { callee := .builtin b, args := xs, argTypes := ts }) (h : wpList P ops Q (o :: rest) a W) : wpList P ops Q (o :: rest) a W := h
end
end Go.Proofs.YtclnanhgcnopdaaDoorW.PrintWords
namespace Go.Proofs.YtclnanhgcnopdaaDoorW.PrintWords
open Go.RowKit
namespace Kd
def V {α : Type} (d : Kd α) (_e : Nat) (W : World) (_base : Nat) (ok : Nat → Prop) (v : Value) (xs : List α) : Prop := ∃ A c, v = .slice A xs.length c ∧ xs.length ≤ c ∧ F d W ok A xs.length xs
section
variable {α β : Type} {d : Kd α} {e base base' n m c g N' lo hi : Nat} {ok ok' S : Nat → Prop} {w W w1 : World} {A : Option Addr} {ad : Addr} {u v v1 : Value} {xs : List α}
theorem V_nil (d : Kd α) (e : Nat) (W : World) (base : Nat) (ok : Nat → Prop) : V d e W base ok (.slice none 0 0) [] := ⟨none, 0, rfl, Nat.le_refl _, F_nil d W ok⟩
end
end Kd
end Go.Proofs.YtclnanhgcnopdaaDoorW.PrintWords
end
section
namespace Go.Proofs.YtclnanhgcnopdaaDoor
set_option linter.unusedVariables false
set_option linter.unusedSimpArgs false
open Go.RowKit Kit
attribute [local irreducible] wpList Calls wpQuiet
set_option maxRecDepth 100000 in
set_option maxHeartbeats 3200000 in
theorem refHex_calls (p : Option Addr) (n c : Nat) (l : List UInt8) (w : World) (hl : l.length = n) (hm : n ≤ 1000000) (hr : Reads w p (l.map byV)) :
    Calls Tryd.prog 16 #[.slice p n c] w fun e w' => e = .returned (.string ⟨(hexL l).toArray⟩) ∧ Below w.heap.size w w' := by
  have HL := Lib.hid hl
  have HR := Lib.hid hr
  clear hl hr
  obtain ⟨i0, hi, hz0, hz1, hz2⟩ := info_parts info_u8
  go_enter Tryd.func16, Tryd.ntmps16
  go_wp2
  go_loopw [3, 4] (fun v i wr => ∃ k : Nat, k ≤ n ∧ i = .int .i64 k ∧ wr.ownsRow w.heap.size 5 1 v (2 * k) ((hexL (l.take k)).map byV) ∧ Below w.heap.size w wr) (fun _ i _ => n - (intOf i).toNat)
  case atStart => exact ⟨0, Nat.zero_le _, rfl, World.ownsRow_nil _ _ _ _, Below.refl _ w⟩
  case round =>
    obtain ⟨k, hk, rfl, hown, hbw⟩ := hrel
    by_cases hlt : k < n
    · obtain ⟨b, o, rfl, hcell0⟩ := HR.out.byte (k := k) (by rw [HL.out]; exact hlt)
      have hcell := (hbw.cell (World.block_lt_of_cell? w _ hcell0)).trans hcell0
      have hbB := World.block_lt_of_cell? w _ hcell0
      have HNE := Lib.hid (fun e => (absurd (hown.lt b (Eq.symm e)).1 (by simp at hbB; omega) : False))
      clear hcell0 hbB
      obtain ⟨x, hx⟩ : ∃ x : UInt8, x = l[k]?.getD 0 := ⟨_, rfl⟩
      rw [← hx] at hcell
      have HX := Lib.hid hx
      clear hx
      obtain ⟨u, hu⟩ : ∃ u : Nat, u = x.toNat / 16 := ⟨_, rfl⟩
      obtain ⟨v, hv⟩ : ∃ v : Nat, v = x.toNat % 16 := ⟨_, rfl⟩
      have hlt256 := x.toNat_lt
      have e1 : ((x.toNat : Int) / 16) = (u : Int) := by omega
      have e2 : ((x.toNat : Int) % 16) = (v : Int) := by omega
      have hx0 : (0 : Int) ≤ (x.toNat : Int) := Int.natCast_nonneg _
      have hu1 : u < 16 := by omega
      have hv1 : v < 16 := by omega
      have e7 : ((x.toNat : Int).tmod 16) = (v : Int) := by rw [Int.tmod_eq_emod_of_nonneg (Int.natCast_nonneg _)]; exact e2
      have e3 : IntKind.u8.wrap (u : Int) = u := IntWalk.u8_in _ (by omega)
      have e4 : IntKind.u8.wrap (v : Int) = v := IntWalk.u8_in _ (by omega)
      have e5 : IntKind.i64.wrap (u : Int) = u := IntWalk.i64_in _ (by omega)
      have e6 : IntKind.i64.wrap (v : Int) = v := IntWalk.i64_in _ (by omega)
      have HU := Lib.hid hu
      have HV := Lib.hid hv
      have HF1 := Lib.hid (figure16_calls u hu1)
      have HF2 := Lib.hid (figure16_calls v hv1)
      clear hu hv
      have hB := hbw.size
      have h63 : 2 * k + 2 ≤ maxLen := by unfold maxLen; omega
      have hby : (2 * k + 2) * 1 ≤ 140737488355328 := by omega
      have hone : ∀ z ∈ [byV (figV u), byV (figV v)], z.oneCell' = true := by simp [byV, Value.oneCell']
      have hbase : ∀ o : Obj, w.heap.size ≤ (wr.alloc o).drew.heap.size := by intro o; simp; omega
      have HH := Lib.hid (And.intro h63 (And.intro hby (And.intro hone hbase)))
      have hi0 : (0 : Int) ≤ (k : Int) := Int.natCast_nonneg _
      have hi1 : (k : Int) < (n : Int) := by omega
      clear h63 hby hone hbase
      go_wp2
      go_region_held3 (fun w' => w'.cell? ⟨b, o + k, none⟩ = some (.int .u8 (x.toNat : Int))) (first | go_keep | exact hgrow.cell ‹_› HNE.out) (first | (go_at_call 34; refine (HF1.out _).mono ?_; rintro e w' ⟨rfl, rfl⟩) | (go_at_call 34; refine (HF2.out _).mono ?_; rintro e w' ⟨rfl, rfl⟩) | (refine step_append_lies _ (by rfl) _ _ 33 (by rfl) w.heap.size 5 i0 (.int .u8 0) 1 1 Tryd.underlying33 hi hz0 hz1 hz2 rfl Nat.one_pos _ (2 * k) ((hexL (l.take k)).map byV) (by rfl) ((hown.alloc _).drew) ⟨wr.heap.size, 0, none⟩ 2 2 [byV (figV u), byV (figV v)] (by rfl) (by rfl) (World.news_of_block (cs := #[byV (figV u), byV (figV v)]) (heap_alloc_new wr _)) HH.out.2.2.1 Nat.two_pos HH.out.1 HH.out.2.1 (HH.out.2.2.2 _) (wr.heap.size + 1) (sizeAlloc _ _) ?_; intro gg cap w1 hown1 hgrow hat hlt1) | fail)
      all_goals
        have R1 : w1.ownsRow w.heap.size 5 1 (.slice (some ⟨gg, 0, none⟩) (2 * k + 2) cap) (2 * (k + 1)) ((hexL (l.take (k + 1))).map byV) := by
          rw [hexL_step l (by rw [HL.out]; exact hlt), ← HX.out, ← HU.out, ← HV.out, List.map_append]
          exact hown1
        have R2 : Below w.heap.size w w1 := ((hbw.alloc hB _).drew).grown hgrow (by rw [sizeAlloc]; omega) (fun k hk => (hown.lt k hk).1)
        clear hown1 hgrow hat hlt1 hown HH
        go_wp2
        go_roundw
        case rel => exact ⟨k + 1, by omega, by go_num, R1, R2⟩
        case measure => simp [intOf]; omega
    · have hkn : k = n := by omega
      subst hkn
      obtain ⟨p', c', hv, hr', _, _⟩ := hown.reads
      subst hv
      have hcv := run_str_of (P := Tryd.prog) (src := 33) (dst := 9) Tryd.underlying33 Tryd.underlying5 Tryd.underlying9 (c := c') hr' (n := 2 * k) (by rw [hexL_length, List.length_take, HL.out]; omega)
      rw [List.take_of_length_le (by rw [HL.out]; exact Nat.le_refl _)] at hcv
      clear hown hr'
      go_wp2
      go_ret
      exact ⟨rfl, hbw⟩
end Go.Proofs.YtclnanhgcnopdaaDoor
end
section
namespace Go.Proofs.YtclnanhgcnopdaaDoor
set_option linter.unusedVariables false
set_option linter.unusedSimpArgs false
open Go.RowKit Kit
attribute [local irreducible] wpList Calls wpQuiet
theorem unhexL_end {l : List UInt8} {k : Nat} (hg : Good l (2 * k)) (h : l.length = 2 * k) : unhexL l = some (pairs l k) := by
  rw [unhexL_go l k (by omega) hg, List.drop_eq_nil_of_le (by omega)]
  simp [unhexL]
set_option maxRecDepth 100000 in
set_option maxHeartbeats 3200000 in
theorem refUnhex_calls (s : ByteArray) (w : World) (hm : s.size ≤ 1000000) :
    Calls Tryd.prog 26 #[.string s] w (UnhexAns (unhexL s.data.toList) w) := by
  obtain ⟨i0, hi, hz0, hz1, hz2⟩ := info_parts info_u8
  go_enter Tryd.func26, Tryd.ntmps26
  go_wp2
  go_loopw [4, 5] (fun a i wr => ∃ k j : Nat, j ≤ s.size ∧ i = .int .i64 j ∧ Hid (j = 2 * k) ∧ Hid (Good s.data.toList (2 * k)) ∧ wr.ownsRow w.heap.size 5 1 a k ((pairs s.data.toList k).map byV) ∧ Below w.heap.size w wr) (fun _ i _ => s.size - (intOf i).toNat)
  case atStart => exact ⟨0, 0, Nat.zero_le _, rfl, Lib.hid rfl, Lib.hid (fun j hj => by omega), World.ownsRow_nil _ _ _ _, Below.refl _ _⟩
  case round =>
    obtain ⟨k, j, hj, rfl, HJ, HG, hown, hbw⟩ := hrel
    by_cases hlt : j + 1 < s.size
    · have hs1 : j < s.size := by omega
      obtain ⟨x, hx⟩ : ∃ x : UInt8, x = s[j]'hs1 := ⟨_, rfl⟩
      obtain ⟨y, hy⟩ : ∃ y : UInt8, y = s[j + 1]'hlt := ⟨_, rfl⟩
      have HX : Hid (s.data.toList[j]?.getD 0 = x) := Lib.hid (by rw [byte_in s hs1, hx])
      have HY : Hid (s.data.toList[j + 1]?.getD 0 = y) := Lib.hid (by rw [byte_in s hlt, hy])
      have HF1 : Hid (∀ w, Calls Tryd.prog 47 #[.int .u8 ((s[j]'hs1).toNat : Int)] w fun e w' => e = .returned (.int .i64 (valU x)) ∧ w' = w) := Lib.hid (fun w => by rw [hx]; exact refValue_calls _ w)
      have HF2 : Hid (∀ w, Calls Tryd.prog 47 #[.int .u8 ((s[j + 1]'hlt).toNat : Int)] w fun e w' => e = .returned (.int .i64 (valU y)) ∧ w' = w) := Lib.hid (fun w => by rw [hy]; exact refValue_calls _ w)
      have i1 : (j : Int) + 1 < (s.size : Int) := by omega
      have hr1 := valU_range x
      have hr2 := valU_range y
      clear hx hy
      by_cases h1 : valU x < 0
      · have b1 : decide (valU x < 0) = true := decide_eq_true h1
        have H2 : Hid (unhexL s.data.toList = none) := Lib.hid (unhexL_bad (k := j) (by rw [len_in]; exact hs1) (by rw [HX.out]; exact h1))
        clear h1
        go_wp2_with (first | (go_at_call 47; refine (HF1.out _).mono ?_; rintro e w' ⟨rfl, hw'⟩; have hw'' := hw'.symm; subst hw'') | (go_at_call 47; refine (HF2.out _).mono ?_; rintro e w' ⟨rfl, hw'⟩; have hw'' := hw'.symm; subst hw''))
        go_ret2
        exact ⟨.slice none 0 0, by rw [H2.out]; rfl, by rw [H2.out]; exact World.ownsRow_nil _ _ _ _, hbw⟩
      · have b1 : decide (valU x < 0) = false := decide_eq_false h1
        by_cases h2 : valU y < 0
        · have b2 : decide (valU y < 0) = true := decide_eq_true h2
          have H2 : Hid (unhexL s.data.toList = none) := Lib.hid (unhexL_bad (k := j + 1) (by rw [len_in]; exact hlt) (by rw [HY.out]; exact h2))
          clear h1 h2
          go_wp2_with (first | (go_at_call 47; refine (HF1.out _).mono ?_; rintro e w' ⟨rfl, hw'⟩; have hw'' := hw'.symm; subst hw'') | (go_at_call 47; refine (HF2.out _).mono ?_; rintro e w' ⟨rfl, hw'⟩; have hw'' := hw'.symm; subst hw''))
          go_ret2
          exact ⟨.slice none 0 0, by rw [H2.out]; rfl, by rw [H2.out]; exact World.ownsRow_nil _ _ _ _, hbw⟩
        · have b2 : decide (valU y < 0) = false := decide_eq_false h2
          have hg1 : 0 ≤ valU x := by omega
          have hg2 : 0 ≤ valU y := by omega
          have HPV : Hid (byV (pairU (s.data.toList[2 * k]?.getD 0) (s.data.toList[2 * k + 1]?.getD 0)) = .int .u8 (16 * valU x + valU y)) := Lib.hid (by
            rw [← HJ.out, HX.out, HY.out]
            unfold byV
            rw [pairU_toNat hg1 hg2])
          have HG2 : Hid (Good s.data.toList (2 * (k + 1))) := Lib.hid (fun i hi => by
            have hJ := HJ.out
            by_cases e1 : i = j
            · subst e1; rw [HX.out]; exact hg1
            · by_cases e2 : i = j + 1
              · subst e2; rw [HY.out]; exact hg2
              · exact HG.out i (by omega))
          have HJ2 : Hid (j + 2 = 2 * (k + 1)) := Lib.hid (by have := HJ.out; omega)
          have hk1 : k ≤ 1000000 := by have := HJ.out; omega
          have hB := hbw.size
          have h63 : k + 1 ≤ maxLen := by unfold maxLen; omega
          have hby : (k + 1) * 1 ≤ 140737488355328 := by omega
          have hone : ∀ z ∈ [Value.int .u8 (16 * valU x + valU y)], z.oneCell' = true := by simp [Value.oneCell']
          have hbase : ∀ o : Obj, w.heap.size ≤ (wr.alloc o).heap.size := by intro o; simp; omega
          have HH := Lib.hid (And.intro h63 (And.intro hby (And.intro hone hbase)))
          clear h63 hby hone hbase h1 h2
          go_wp2_with (first | (go_at_call 47; refine (HF1.out _).mono ?_; rintro e w' ⟨rfl, hw'⟩; have hw'' := hw'.symm; subst hw'') | (go_at_call 47; refine (HF2.out _).mono ?_; rintro e w' ⟨rfl, hw'⟩; have hw'' := hw'.symm; subst hw'') | (at_builtin; refine wpList_append_lies _ (by rfl) _ _ 33 (by rfl) w.heap.size 5 i0 (.int .u8 0) 1 1 Tryd.underlying33 hi hz0 hz1 hz2 rfl Nat.one_pos _ k ((pairs s.data.toList k).map byV) (by rfl) (hown.alloc _) ⟨wr.heap.size, 0, none⟩ 1 1 [.int .u8 (16 * valU x + valU y)] (by rfl) (by rfl) (World.news_of_block (cs := #[.int .u8 (16 * valU x + valU y)]) (heap_alloc_new wr _)) HH.out.2.2.1 Nat.one_pos HH.out.1 HH.out.2.1 (HH.out.2.2.2 _) (wr.heap.size + 1) (sizeAlloc' _ _) ?_; intro gg cap w1 hown1 hgrow hat hlt1))
          have R1 : w1.ownsRow w.heap.size 5 1 (.slice (some ⟨gg, 0, none⟩) (k + 1) cap) (k + 1) ((pairs s.data.toList (k + 1)).map byV) := by
            simp only [pairs, List.map_append, List.map_cons, List.map_nil]
            rw [HPV.out]
            exact hown1
          have R2 : Below w.heap.size w w1 := (hbw.alloc hB _).grown hgrow (by rw [sizeAlloc']; omega) (fun k hk => (hown.lt k hk).1)
          clear hown1 hgrow hat hlt1 hown HH HPV HF1 HF2
          go_wp2
          go_roundw
          case rel => exact ⟨k + 1, j + 2, by omega, by go_num, HJ2, HG2, R1, R2⟩
          case measure => simp [intOf]; omega
    · obtain ⟨p', c', hv, hr', hc', _⟩ := hown.reads
      subst hv
      have HOW := Lib.hid hown
      clear hown hr' hc'
      have hJ := HJ.out
      have hk1 : k ≤ 1000000 := by omega
      by_cases hodd : j = s.size
      · subst hodd
        have e0 : ((s.size : Int) % 2) = 0 := by omega
        have HU := Lib.hid (unhexL_end (l := s.data.toList) HG.out (by rw [len_in]; exact hJ))
        go_wp2
        go_ret2
        exact ⟨.slice p' k c', by rw [HU.out]; rfl, by rw [HU.out]; simp only [Option.getD_some, pairs_length]; exact HOW.out, hbw⟩
      · have e0 : ((s.size : Int) % 2) = 1 := by omega
        have H2 : Hid (unhexL s.data.toList = none) := Lib.hid (unhexL_odd (by rw [len_in]; omega))
        have i2 : ¬ ((j : Int) + 1 < (s.size : Int)) := by omega
        go_wp2
        go_ret2
        exact ⟨.slice none 0 0, by rw [H2.out]; rfl, by rw [H2.out]; exact World.ownsRow_nil _ _ _ _, hbw⟩
end Go.Proofs.YtclnanhgcnopdaaDoor
end
section
namespace Go.Proofs.YtclnanhgcnopdaaDoor.G
open Go.RowKit Go.Proofs.YtclnanhgcnopdaaDoorW.PrintWords Go.Proofs.YtclnanhgcnopdaaDoorW.PrintLast Go.Proofs.YtclnanhgcnopdaaDoorW.PrintMore
attribute [local go_sem] max2_int min2_int max_two min_two max_three min_three max_four min_four
set_option linter.unusedVariables false
set_option linter.unusedSimpArgs false
theorem info9 : (Tryd.prog.info? 9).map (fun i => (i.zero, i.size, i.bytes)) = some (some (.string ⟨#[]⟩), 1, 16) := by kernel_rfl
structure S50 where
  f0 : ByteArray
  f1 : ByteArray
def z50 : S50 := ⟨(⟨#[]⟩ : ByteArray), (⟨#[]⟩ : ByteArray)⟩
def k50 : Kd S50 := Kd.iso (Kd.pair Kd.string Kd.string) (fun x : S50 => (x.f0, x.f1))
theorem k50_open {w : World} {x : S50} {cs : List Value} (h : k50.K w x cs) : cs = [.string x.f0, .string x.f1] := by
  obtain ⟨_, _, rfl, rfl, rfl⟩ := h
  exact rfl
theorem k50_mkM (w : World) (base : Nat) (ok : Nat → Prop) (x : S50)  : k50.M w base ok x [.string x.f0, .string x.f1] := ⟨[.string x.f0], [.string x.f1], rfl, rfl, rfl⟩
def rd_T50 (xs : List S50) (i : Int) : S50 := xs.getD i.toNat z50
theorem at_T50 {w : World} {A : Option Addr} {n : Nat} {xs : List S50} (h : Kd.C k50 w A n xs) (i : Int) (h0 : 0 ≤ i) (h1 : i < n) : ∃ ad , A = some ad ∧ w.cell? (ad.add (i.toNat * 2)) = some (.string (rd_T50 xs i).f0) ∧ w.cell? ⟨(ad.add (i.toNat * 2)).block, (ad.add (i.toNat * 2)).off + 1, none⟩ = some (.string (rd_T50 xs i).f1) := by
  obtain ⟨ad, c, e, _, hK, hc0⟩ := Kd.C_get h z50 i h0 h1
  have hc : ∀ j u, c[j]? = some u → w.cell? (ad.add (i.toNat * 2 + j)) = some u := hc0
  obtain rfl := k50_open hK
  exact ⟨ad, e, hc 0 _ rfl, by rw [← add_field _ _ 1 (by omega)]; exact hc 1 _ rfl⟩
end Go.Proofs.YtclnanhgcnopdaaDoor.G
end
section
namespace Go.Proofs.YtclnanhgcnopdaaDoor
set_option linter.unusedVariables false
set_option linter.unusedSimpArgs false
open Go.RowKit Kit
theorem capsS_rows (s : ByteArray) : ∃ n, (capsS s).rows = [[n]] := by
  rw [capsS_eq]
  split
  · exact ⟨1, rfl⟩
  · exact ⟨0, rfl⟩
end Go.Proofs.YtclnanhgcnopdaaDoor
end
section
namespace Go.Proofs.YtclnanhgcnopdaaDoor.Kit
set_option linter.unusedVariables false
set_option linter.unusedSimpArgs false
open Go Go.RowKit
section
variable {P : Program} {ops : Array Oper} {Q : Exit → Act → World → Prop} {a : Act} {w W0 : World} {rest : List Oper} {o : Oper} {bs : Res}
def IsBytes (e : TypeId) (n c : Nat) (l : List UInt8) : Obj → Prop := fun o => ∃ cur fz, o = .cells cur e fz ∧ cur.size = c ∧ c ≤ fz.1 ∧ n ≤ c ∧ cur.toList.take n = l.map byV
theorem Mine.row {g n c : Nat} {e : TypeId} {l : List UInt8} (HO : Mine W0 w bs) (hm : (g, IsBytes e n c l) ∈ bs) : Row w g n c e l := by
  obtain ⟨_, o, ho, cur, fz, rfl, h1, h2, h3, h4⟩ := HO.held _ hm
  exact ⟨cur, fz, ho, h1, h2, h3, h4⟩
theorem own_bytesF {src dst e : TypeId} {x : Operand} {s : ByteArray} (HO : Mine W0 w bs) (ho : o.op = .convert src dst x) (hgd : Region.wanted o (yielded ops a.tmps) = true) (hx : EvalTo a x (.string s)) (hs : P.underlying src = some .string) (hd : P.underlying dst = some (.slice e)) (he : P.underlying e = some (.int .u8))
    (h : ∀ g c w', W0.heap.size ≤ g → Mine W0 w' ((g, IsBytes e s.size c s.data.toList) :: bs) → wpList P ops Q rest (a.put o.dst (.slice (some ⟨g, 0, none⟩) s.size c)) w') : wpList P ops Q (o :: rest) a w :=
  wpList_want hgd fun _ hK => by
    obtain ⟨c, w', hr, hb, cur, fz, hg, h1, h2, h3, h4⟩ := run_row_of (P := P) (s := s) hs hd he w
    unfold Oper.wp execOp
    simp only [ho, hx.eq, Sem.run_bind, hr, Sem.run_pure, Result.andThen_ok]
    refine hK _ _ (h _ c w' HO.below.size (((HO.call hb).take (p := IsBytes e s.size c s.data.toList) (fun q hq => HO.lt hq) HO.below.size (Nat.le_refl _) ⟨_, hg, cur, fz, rfl, h1, h2, h3, h4⟩).perm List.perm_append_comm))
end
end Go.Proofs.YtclnanhgcnopdaaDoor.Kit
end
section
namespace Go.Proofs.YtclnanhgcnopdaaDoor.G
open Go.RowKit Go.Proofs.YtclnanhgcnopdaaDoorW.PrintWords Go.Proofs.YtclnanhgcnopdaaDoorW.PrintLast Go.Proofs.YtclnanhgcnopdaaDoorW.PrintMore
attribute [local go_sem] max2_int min2_int max_two min_two max_three min_three max_four min_four
set_option linter.unusedVariables false
set_option linter.unusedSimpArgs false
def clavierref20_all.f  : Option ((List (S50))) := some (([(⟨(⟨#[67, 111]⟩ : ByteArray), (⟨#[50, 53, 54]⟩ : ByteArray)⟩ : S50), (⟨(⟨#[82, 71, 66]⟩ : ByteArray), (⟨#[56]⟩ : ByteArray)⟩ : S50), (⟨(⟨#[84, 78]⟩ : ByteArray), (⟨#[99, 108, 97, 118, 105, 101, 114]⟩ : ByteArray)⟩ : S50), (⟨(⟨#[99, 111, 108, 111, 114, 115]⟩ : ByteArray), (⟨#[50, 53, 54]⟩ : ByteArray)⟩ : S50), (⟨(⟨#[107, 98, 115]⟩ : ByteArray), (⟨#[127]⟩ : ByteArray)⟩ : S50), (⟨(⟨#[107, 99, 117, 98, 49]⟩ : ByteArray), (⟨#[27, 79, 68]⟩ : ByteArray)⟩ : S50), (⟨(⟨#[107, 99, 117, 100, 49]⟩ : ByteArray), (⟨#[27, 79, 66]⟩ : ByteArray)⟩ : S50), (⟨(⟨#[107, 99, 117, 102, 49]⟩ : ByteArray), (⟨#[27, 79, 67]⟩ : ByteArray)⟩ : S50), (⟨(⟨#[107, 99, 117, 117, 49]⟩ : ByteArray), (⟨#[27, 79, 65]⟩ : ByteArray)⟩ : S50), (⟨(⟨#[107, 100, 99, 104, 49]⟩ : ByteArray), (⟨#[27, 91, 51, 126]⟩ : ByteArray)⟩ : S50), (⟨(⟨#[107, 102, 49]⟩ : ByteArray), (⟨#[27, 79, 80]⟩ : ByteArray)⟩ : S50), (⟨(⟨#[110, 97, 109, 101]⟩ : ByteArray), (⟨#[99, 108, 97, 118, 105, 101, 114]⟩ : ByteArray)⟩ : S50)] : List (S50)))
set_option maxHeartbeats 8000000 in
set_option maxRecDepth 100000 in
theorem clavierref20_all.calls  (r : List (S50)) (w : World) (h : clavierref20_all.f  = some r) :
    Calls Tryd.prog 20 #[] w fun e w' => ∃ v0_ : Value, e = .returned (v0_) ∧ Kd.R k50 50 w' w.heap.size (fun _ => True) v0_ r ∧ Below w.heap.size w w' := by
  have hu50 := Tryd.underlying50
  have HB := Aside0.mk (Below.refl w.heap.size w)
  have H : (some (([(⟨(⟨#[67, 111]⟩ : ByteArray), (⟨#[50, 53, 54]⟩ : ByteArray)⟩ : S50), (⟨(⟨#[82, 71, 66]⟩ : ByteArray), (⟨#[56]⟩ : ByteArray)⟩ : S50), (⟨(⟨#[84, 78]⟩ : ByteArray), (⟨#[99, 108, 97, 118, 105, 101, 114]⟩ : ByteArray)⟩ : S50), (⟨(⟨#[99, 111, 108, 111, 114, 115]⟩ : ByteArray), (⟨#[50, 53, 54]⟩ : ByteArray)⟩ : S50), (⟨(⟨#[107, 98, 115]⟩ : ByteArray), (⟨#[127]⟩ : ByteArray)⟩ : S50), (⟨(⟨#[107, 99, 117, 98, 49]⟩ : ByteArray), (⟨#[27, 79, 68]⟩ : ByteArray)⟩ : S50), (⟨(⟨#[107, 99, 117, 100, 49]⟩ : ByteArray), (⟨#[27, 79, 66]⟩ : ByteArray)⟩ : S50), (⟨(⟨#[107, 99, 117, 102, 49]⟩ : ByteArray), (⟨#[27, 79, 67]⟩ : ByteArray)⟩ : S50), (⟨(⟨#[107, 99, 117, 117, 49]⟩ : ByteArray), (⟨#[27, 79, 65]⟩ : ByteArray)⟩ : S50), (⟨(⟨#[107, 100, 99, 104, 49]⟩ : ByteArray), (⟨#[27, 91, 51, 126]⟩ : ByteArray)⟩ : S50), (⟨(⟨#[107, 102, 49]⟩ : ByteArray), (⟨#[27, 79, 80]⟩ : ByteArray)⟩ : S50), (⟨(⟨#[110, 97, 109, 101]⟩ : ByteArray), (⟨#[99, 108, 97, 118, 105, 101, 114]⟩ : ByteArray)⟩ : S50)] : List (S50)))) = some r := h
  clear h
  obtain ⟨y119, hy119⟩ : ∃ y_ : List (S50), y_ = (([(⟨(⟨#[67, 111]⟩ : ByteArray), (⟨#[50, 53, 54]⟩ : ByteArray)⟩ : S50), (⟨(⟨#[82, 71, 66]⟩ : ByteArray), (⟨#[56]⟩ : ByteArray)⟩ : S50), (⟨(⟨#[84, 78]⟩ : ByteArray), (⟨#[99, 108, 97, 118, 105, 101, 114]⟩ : ByteArray)⟩ : S50), (⟨(⟨#[99, 111, 108, 111, 114, 115]⟩ : ByteArray), (⟨#[50, 53, 54]⟩ : ByteArray)⟩ : S50), (⟨(⟨#[107, 98, 115]⟩ : ByteArray), (⟨#[127]⟩ : ByteArray)⟩ : S50), (⟨(⟨#[107, 99, 117, 98, 49]⟩ : ByteArray), (⟨#[27, 79, 68]⟩ : ByteArray)⟩ : S50), (⟨(⟨#[107, 99, 117, 100, 49]⟩ : ByteArray), (⟨#[27, 79, 66]⟩ : ByteArray)⟩ : S50), (⟨(⟨#[107, 99, 117, 102, 49]⟩ : ByteArray), (⟨#[27, 79, 67]⟩ : ByteArray)⟩ : S50), (⟨(⟨#[107, 99, 117, 117, 49]⟩ : ByteArray), (⟨#[27, 79, 65]⟩ : ByteArray)⟩ : S50), (⟨(⟨#[107, 100, 99, 104, 49]⟩ : ByteArray), (⟨#[27, 91, 51, 126]⟩ : ByteArray)⟩ : S50), (⟨(⟨#[107, 102, 49]⟩ : ByteArray), (⟨#[27, 79, 80]⟩ : ByteArray)⟩ : S50), (⟨(⟨#[110, 97, 109, 101]⟩ : ByteArray), (⟨#[99, 108, 97, 118, 105, 101, 114]⟩ : ByteArray)⟩ : S50)] : List (S50))) := ⟨_, rfl⟩
  replace H : (some y119) = some r := by first | (rw [hy119]; with_reducible exact H) | (have H2_ := (Option.bind_some _ _).symm.trans H; rw [hy119]; with_reducible exact H2_) | (have H2_ := (Option.bind_some _ _).symm.trans H; with_reducible exact H2_) | with_reducible exact H | (rw [hy119]; exact H) | exact H
  have Ny119 := Aside0.mk hy119
  clear hy119
  obtain rfl := Option.some.inj H
  go_enter Tryd.func20, Tryd.ntmps20
  go_wp2_with (first | ((with_reducible refine gate_dst (N := 13) rfl ?_); refine Kd.R_lit k50 _ 50 ?hg (N := 13) ?hd (xs := ([(⟨(⟨#[67, 111]⟩ : ByteArray), (⟨#[50, 53, 54]⟩ : ByteArray)⟩ : S50), (⟨(⟨#[82, 71, 66]⟩ : ByteArray), (⟨#[56]⟩ : ByteArray)⟩ : S50), (⟨(⟨#[84, 78]⟩ : ByteArray), (⟨#[99, 108, 97, 118, 105, 101, 114]⟩ : ByteArray)⟩ : S50), (⟨(⟨#[99, 111, 108, 111, 114, 115]⟩ : ByteArray), (⟨#[50, 53, 54]⟩ : ByteArray)⟩ : S50), (⟨(⟨#[107, 98, 115]⟩ : ByteArray), (⟨#[127]⟩ : ByteArray)⟩ : S50), (⟨(⟨#[107, 99, 117, 98, 49]⟩ : ByteArray), (⟨#[27, 79, 68]⟩ : ByteArray)⟩ : S50), (⟨(⟨#[107, 99, 117, 100, 49]⟩ : ByteArray), (⟨#[27, 79, 66]⟩ : ByteArray)⟩ : S50), (⟨(⟨#[107, 99, 117, 102, 49]⟩ : ByteArray), (⟨#[27, 79, 67]⟩ : ByteArray)⟩ : S50), (⟨(⟨#[107, 99, 117, 117, 49]⟩ : ByteArray), (⟨#[27, 79, 65]⟩ : ByteArray)⟩ : S50), (⟨(⟨#[107, 100, 99, 104, 49]⟩ : ByteArray), (⟨#[27, 91, 51, 126]⟩ : ByteArray)⟩ : S50), (⟨(⟨#[107, 102, 49]⟩ : ByteArray), (⟨#[27, 79, 80]⟩ : ByteArray)⟩ : S50), (⟨(⟨#[110, 97, 109, 101]⟩ : ByteArray), (⟨#[99, 108, 97, 118, 105, 101, 114]⟩ : ByteArray)⟩ : S50)] : List (S50))) (inner := [.string (⟨#[67, 111]⟩ : ByteArray), .string (⟨#[50, 53, 54]⟩ : ByteArray), .string (⟨#[82, 71, 66]⟩ : ByteArray), .string (⟨#[56]⟩ : ByteArray), .string (⟨#[84, 78]⟩ : ByteArray), .string (⟨#[99, 108, 97, 118, 105, 101, 114]⟩ : ByteArray), .string (⟨#[99, 111, 108, 111, 114, 115]⟩ : ByteArray), .string (⟨#[50, 53, 54]⟩ : ByteArray), .string (⟨#[107, 98, 115]⟩ : ByteArray), .string (⟨#[127]⟩ : ByteArray), .string (⟨#[107, 99, 117, 98, 49]⟩ : ByteArray), .string (⟨#[27, 79, 68]⟩ : ByteArray), .string (⟨#[107, 99, 117, 100, 49]⟩ : ByteArray), .string (⟨#[27, 79, 66]⟩ : ByteArray), .string (⟨#[107, 99, 117, 102, 49]⟩ : ByteArray), .string (⟨#[27, 79, 67]⟩ : ByteArray), .string (⟨#[107, 99, 117, 117, 49]⟩ : ByteArray), .string (⟨#[27, 79, 65]⟩ : ByteArray), .string (⟨#[107, 100, 99, 104, 49]⟩ : ByteArray), .string (⟨#[27, 91, 51, 126]⟩ : ByteArray), .string (⟨#[107, 102, 49]⟩ : ByteArray), .string (⟨#[27, 79, 80]⟩ : ByteArray), .string (⟨#[110, 97, 109, 101]⟩ : ByteArray), .string (⟨#[99, 108, 97, 118, 105, 101, 114]⟩ : ByteArray)]) (ok := fun _ => True) (okp := fun _ => True) ?hr ?hp (fun _ hk => hk) trivial (Below.refl _ _) (Nat.le_refl _) (by simp) ?_; (case hd => rfl); (case hg => rfl); (case hr => first | (go_simp; done) | (go_simp; rfl)); (case hp => exact (Reps.c2 (show Kd.M k50 _ _ _ (⟨(⟨#[67, 111]⟩ : ByteArray), (⟨#[50, 53, 54]⟩ : ByteArray)⟩ : S50) [.string (⟨#[67, 111]⟩ : ByteArray), .string (⟨#[50, 53, 54]⟩ : ByteArray)] from (k50_mkM _ _ _ (⟨(⟨#[67, 111]⟩ : ByteArray), (⟨#[50, 53, 54]⟩ : ByteArray)⟩ : S50) )) (Reps.c2 (show Kd.M k50 _ _ _ (⟨(⟨#[82, 71, 66]⟩ : ByteArray), (⟨#[56]⟩ : ByteArray)⟩ : S50) [.string (⟨#[82, 71, 66]⟩ : ByteArray), .string (⟨#[56]⟩ : ByteArray)] from (k50_mkM _ _ _ (⟨(⟨#[82, 71, 66]⟩ : ByteArray), (⟨#[56]⟩ : ByteArray)⟩ : S50) )) (Reps.c2 (show Kd.M k50 _ _ _ (⟨(⟨#[84, 78]⟩ : ByteArray), (⟨#[99, 108, 97, 118, 105, 101, 114]⟩ : ByteArray)⟩ : S50) [.string (⟨#[84, 78]⟩ : ByteArray), .string (⟨#[99, 108, 97, 118, 105, 101, 114]⟩ : ByteArray)] from (k50_mkM _ _ _ (⟨(⟨#[84, 78]⟩ : ByteArray), (⟨#[99, 108, 97, 118, 105, 101, 114]⟩ : ByteArray)⟩ : S50) )) (Reps.c2 (show Kd.M k50 _ _ _ (⟨(⟨#[99, 111, 108, 111, 114, 115]⟩ : ByteArray), (⟨#[50, 53, 54]⟩ : ByteArray)⟩ : S50) [.string (⟨#[99, 111, 108, 111, 114, 115]⟩ : ByteArray), .string (⟨#[50, 53, 54]⟩ : ByteArray)] from (k50_mkM _ _ _ (⟨(⟨#[99, 111, 108, 111, 114, 115]⟩ : ByteArray), (⟨#[50, 53, 54]⟩ : ByteArray)⟩ : S50) )) (Reps.c2 (show Kd.M k50 _ _ _ (⟨(⟨#[107, 98, 115]⟩ : ByteArray), (⟨#[127]⟩ : ByteArray)⟩ : S50) [.string (⟨#[107, 98, 115]⟩ : ByteArray), .string (⟨#[127]⟩ : ByteArray)] from (k50_mkM _ _ _ (⟨(⟨#[107, 98, 115]⟩ : ByteArray), (⟨#[127]⟩ : ByteArray)⟩ : S50) )) (Reps.c2 (show Kd.M k50 _ _ _ (⟨(⟨#[107, 99, 117, 98, 49]⟩ : ByteArray), (⟨#[27, 79, 68]⟩ : ByteArray)⟩ : S50) [.string (⟨#[107, 99, 117, 98, 49]⟩ : ByteArray), .string (⟨#[27, 79, 68]⟩ : ByteArray)] from (k50_mkM _ _ _ (⟨(⟨#[107, 99, 117, 98, 49]⟩ : ByteArray), (⟨#[27, 79, 68]⟩ : ByteArray)⟩ : S50) )) (Reps.c2 (show Kd.M k50 _ _ _ (⟨(⟨#[107, 99, 117, 100, 49]⟩ : ByteArray), (⟨#[27, 79, 66]⟩ : ByteArray)⟩ : S50) [.string (⟨#[107, 99, 117, 100, 49]⟩ : ByteArray), .string (⟨#[27, 79, 66]⟩ : ByteArray)] from (k50_mkM _ _ _ (⟨(⟨#[107, 99, 117, 100, 49]⟩ : ByteArray), (⟨#[27, 79, 66]⟩ : ByteArray)⟩ : S50) )) (Reps.c2 (show Kd.M k50 _ _ _ (⟨(⟨#[107, 99, 117, 102, 49]⟩ : ByteArray), (⟨#[27, 79, 67]⟩ : ByteArray)⟩ : S50) [.string (⟨#[107, 99, 117, 102, 49]⟩ : ByteArray), .string (⟨#[27, 79, 67]⟩ : ByteArray)] from (k50_mkM _ _ _ (⟨(⟨#[107, 99, 117, 102, 49]⟩ : ByteArray), (⟨#[27, 79, 67]⟩ : ByteArray)⟩ : S50) )) (Reps.c2 (show Kd.M k50 _ _ _ (⟨(⟨#[107, 99, 117, 117, 49]⟩ : ByteArray), (⟨#[27, 79, 65]⟩ : ByteArray)⟩ : S50) [.string (⟨#[107, 99, 117, 117, 49]⟩ : ByteArray), .string (⟨#[27, 79, 65]⟩ : ByteArray)] from (k50_mkM _ _ _ (⟨(⟨#[107, 99, 117, 117, 49]⟩ : ByteArray), (⟨#[27, 79, 65]⟩ : ByteArray)⟩ : S50) )) (Reps.c2 (show Kd.M k50 _ _ _ (⟨(⟨#[107, 100, 99, 104, 49]⟩ : ByteArray), (⟨#[27, 91, 51, 126]⟩ : ByteArray)⟩ : S50) [.string (⟨#[107, 100, 99, 104, 49]⟩ : ByteArray), .string (⟨#[27, 91, 51, 126]⟩ : ByteArray)] from (k50_mkM _ _ _ (⟨(⟨#[107, 100, 99, 104, 49]⟩ : ByteArray), (⟨#[27, 91, 51, 126]⟩ : ByteArray)⟩ : S50) )) (Reps.c2 (show Kd.M k50 _ _ _ (⟨(⟨#[107, 102, 49]⟩ : ByteArray), (⟨#[27, 79, 80]⟩ : ByteArray)⟩ : S50) [.string (⟨#[107, 102, 49]⟩ : ByteArray), .string (⟨#[27, 79, 80]⟩ : ByteArray)] from (k50_mkM _ _ _ (⟨(⟨#[107, 102, 49]⟩ : ByteArray), (⟨#[27, 79, 80]⟩ : ByteArray)⟩ : S50) )) (Reps.c2 (show Kd.M k50 _ _ _ (⟨(⟨#[110, 97, 109, 101]⟩ : ByteArray), (⟨#[99, 108, 97, 118, 105, 101, 114]⟩ : ByteArray)⟩ : S50) [.string (⟨#[110, 97, 109, 101]⟩ : ByteArray), .string (⟨#[99, 108, 97, 118, 105, 101, 114]⟩ : ByteArray)] from (k50_mkM _ _ _ (⟨(⟨#[110, 97, 109, 101]⟩ : ByteArray), (⟨#[99, 108, 97, 118, 105, 101, 114]⟩ : ByteArray)⟩ : S50) )) (Reps.none _ _)))))))))))))); intro v120 w1 ho2 hb hg_ hnew_; clear hg_ hnew_; (first | rw [← Ny119.out] at ho2 | (simp only [Int.reduceToNat] at ho2; rw [← Ny119.out] at ho2)); have n0_ := Aside0.mk (Kd.R_lower ho2 (below_size (by repeat (first | (with_reducible first | exact HB.out | apply below_alloc | apply pw_below_drewN | apply below_drew1) | exact HB.out)))); have n1_ := Aside0.mk (below_step (by repeat (first | (with_reducible first | exact HB.out | apply below_alloc | apply pw_below_drewN | apply below_drew1) | exact HB.out)) hb); clear HB; have HO121 := n0_; have HB := n1_; clear n0_ n1_; clear hb ho2))
  go_ret
  exact ⟨_, by first | rfl | (simp [errW_none, errW_some] <;> rfl) | (simp [*, errW_none, errW_some] <;> rfl), by (with_reducible repeat (first | apply Kd.R_alloc | apply Kd.R_drewN | apply Kd.R_drew)); exact HO121.out, by repeat (first | (with_reducible first | exact HB.out | apply below_alloc | apply pw_below_drewN | apply below_drew1) | exact HB.out)⟩
def clavierref20_Look.l0 : Nat → ByteArray → List (S50) → Int → Option (ByteArray × Bool)
  | 0, _, _, _ => none
  | k + 1, x0, x4, x5 => if x5 < (x4.length : Int) then (if 0 ≤ x5 then (if ((rd_T50 x4 x5).f0).toList = x0.toList then (some ((rd_T50 x4 x5).f1, true)) else (clavierref20_Look.l0 k x0 x4 (wrap64 (x5 + 1)))) else (none)) else (some ((⟨#[]⟩ : ByteArray), false))
def clavierref20_Look.f (k : Nat) (a0 : ByteArray) : Option (ByteArray × Bool) := (clavierref20_all.f).bind fun t122 => (clavierref20_Look.l0 k a0 t122 0)
theorem clavierref20_Look.mono_l : ∀ k, (∀ y0 y1 y2, LeO (clavierref20_Look.l0 k y0 y1 y2) (clavierref20_Look.l0 (k + 1) y0 y1 y2))
  | 0 => fun _ _ _ r h => by simp [clavierref20_Look.l0] at h
  | k + 1 => by
    have ih0 := clavierref20_Look.mono_l k
    · intro y0 y1 y2
      unfold clavierref20_Look.l0
      repeat' first
      | (with_reducible exact ih0 _ _ _)
      | (with_reducible exact LeO.refl _)
      | (with_reducible exact LeO.none _)
      | (with_reducible refine LeO.ite ?_ ?_)
      | (with_reducible refine LeO.bind ?_ (fun _ => ?_))
      | exact ih0 _ _ _
      | exact LeO.none _
      | refine LeO.ite ?_ ?_
      | refine LeO.bind ?_ (fun _ => ?_)
theorem clavierref20_Look.mono : ∀ a0 k, LeO (clavierref20_Look.f k a0) (clavierref20_Look.f (k + 1) a0) := by
  intro a0 k
  have ih0 := clavierref20_Look.mono_l k
  unfold clavierref20_Look.f
  repeat' first
      | (with_reducible exact ih0 _ _ _)
      | (with_reducible exact LeO.refl _)
      | (with_reducible exact LeO.none _)
      | (with_reducible refine LeO.ite ?_ ?_)
      | (with_reducible refine LeO.bind ?_ (fun _ => ?_))
      | exact ih0 _ _ _
      | exact LeO.none _
      | refine LeO.ite ?_ ?_
      | refine LeO.bind ?_ (fun _ => ?_)
set_option maxHeartbeats 8000000 in
set_option maxRecDepth 100000 in
theorem clavierref20_Look.calls (k : Nat) (a0 : ByteArray) (r1 : ByteArray) (r2 : Bool) (w : World) (h : clavierref20_Look.f k a0 = some (r1, r2)) :
    Calls Tryd.prog 10 #[.string a0] w fun e w' => e = .returned (.tuple #[.string r1, .bool r2]) ∧ Below w.heap.size w w' := by
  have HB := Aside0.mk (Below.refl w.heap.size w)
  have H : ((clavierref20_all.f).bind fun t122 => (clavierref20_Look.l0 k a0 t122 0)) = some (r1, r2) := h
  clear h
  replace H := Option.bind_eq_some_iff.mp H
  obtain ⟨t122, A20, H⟩ := H
  replace H : (clavierref20_Look.l0 k a0 t122 0) = some (r1, r2) := H
  have A2 := Aside0.mk A20
  clear A20
  have H' := Aside0.mk H
  clear H
  go_enter Tryd.func10, Tryd.ntmps10
  go_wp2_with (first | ((with_reducible refine gate_callee (f := 20) rfl ?_); refine goesL_ (some 6) rfl rfl Tryd.func20 (by kernel_rfl) rfl #[] rfl (by (try simp only [List.map_toArray, List.map_cons, List.map_nil]); first | done | rfl | (simp only [List.length_drop, List.length_take]; rfl)) ?_; (with_reducible refine (clavierref20_all.calls  t122 _ A2.out).mono ?_); rintro e w3 ⟨v123, rfl, ho0, hb⟩; refine ⟨_, rfl, ?_⟩; have n0_ := Aside0.mk (Kd.R_lower ho0 (below_size (by repeat (first | (with_reducible first | exact HB.out | apply below_alloc | apply pw_below_drewN | apply below_drew1) | exact HB.out)))); have n1_ := Aside0.mk (below_step (by repeat (first | (with_reducible first | exact HB.out | apply below_alloc | apply pw_below_drewN | apply below_drew1) | exact HB.out)) hb); clear HB; have HO124 := n0_; have HB := n1_; clear n0_ n1_; (try clear hb); (try clear hb2); (try clear hk); (try clear hi); (try clear ho0)))
  go_loopg [5] k (fun kq v5 w' => ∃ (x5_1 : Int), v5 = .int .i64 x5_1 ∧ Aside0 (clavierref20_Look.l0 kq a0 t122 x5_1 = some (r1, r2)) ∧ Aside0 (kq ≤ k) ∧ Aside0 (Kd.R k50 50 w' w.heap.size (fun _ => True) v123 t122) ∧ Aside0 (Below w.heap.size w w'))
  case atStart => exact ⟨(0), (by first | rfl | (simp; done) | (simp [*]; done)), H', ⟨Nat.le_refl _⟩, ⟨by (with_reducible repeat (first | apply Kd.R_alloc | apply Kd.R_drewN | apply Kd.R_drew)); exact HO124.out⟩, ⟨by repeat (first | (with_reducible first | exact HB.out | apply below_alloc | apply pw_below_drewN | apply below_drew1) | exact HB.out)⟩⟩
  case round =>
    clear H'
    try clear c1
    try clear c2
    try clear p2
    obtain ⟨x5_1, rfl, HA, HK1, HO_4, HB⟩ := hrel
    cases gk with
    | zero => exact absurd HA.out (by simp [clavierref20_Look.l0])
    | succ k1 =>
      have H := HA.out
      clear HA
      simp only [clavierref20_Look.l0] at H
      by_cases c4 : x5_1 < (t122.length : Int)
      · rw [if_pos c4] at H
        have c4b0 : decide (x5_1 < (t122.length : Int)) = true := decide_eq_true c4
        clear c4
        by_cases c5 : 0 ≤ x5_1
        · rw [if_pos c5] at H
          have c5b0 : decide (0 ≤ x5_1) = true := decide_eq_true c5
          clear c5
          by_cases c6 : ((rd_T50 t122 x5_1).f0).toList = a0.toList
          · rw [if_pos c6] at H
            have c6b0 : (((rd_T50 t122 x5_1).f0).toList == a0.toList) = true := beq_iff_eq.mpr c6
            have c6b1 : (((rd_T50 t122 x5_1).f0).toList != a0.toList) = false := bne_eq_false_iff_eq.mpr c6
            clear c6
            simp only [Option.some.injEq, Prod.mk.injEq] at H
            obtain ⟨rfl, rfl⟩ := H
            obtain ⟨Ao7, co7, eo7⟩ := Kd.R_slice HO_4.out
            subst eo7
            have p125 : 0 ≤ (x5_1 : Int) := of_decide_eq_true (by first | (with_reducible assumption) | assumption)
            have q125 : x5_1 < (t122.length : Int) := of_decide_eq_true (by first | (with_reducible assumption) | assumption)
            obtain ⟨ad125, e125, hx125_0, hx125_1⟩ := at_T50 (Kd.R_reads' HO_4.out).2.2 x5_1 p125 q125
            cases e125
            replace p125 := eq_true p125
            replace q125 := eq_true q125
            have p126 : 0 ≤ (x5_1 : Int) := of_decide_eq_true (by first | (with_reducible assumption) | assumption)
            have q126 : x5_1 < (t122.length : Int) := of_decide_eq_true (by first | (with_reducible assumption) | assumption)
            obtain ⟨ad126, e126, hx126_0, hx126_1⟩ := at_T50 (Kd.R_reads' HO_4.out).2.2 x5_1 p126 q126
            obtain rfl : ad125 = ad126 := (by injection e126)
            replace p126 := eq_true p126
            replace q126 := eq_true q126
            go_wp2
            go_ret2
            exact ⟨by first | rfl | (simp [errW_none, errW_some] <;> rfl) | (simp [*, errW_none, errW_some] <;> rfl), by repeat (first | (with_reducible first | exact HB.out | apply below_alloc | apply pw_below_drewN | apply below_drew1) | exact HB.out)⟩
          · rw [if_neg c6] at H
            have c6b0 : (((rd_T50 t122 x5_1).f0).toList == a0.toList) = false := beq_eq_false_iff_ne.mpr c6
            have c6b1 : (((rd_T50 t122 x5_1).f0).toList != a0.toList) = true := bne_iff_ne.mpr c6
            have H' := Aside0.mk H
            clear H
            obtain ⟨Ao8, co8, eo8⟩ := Kd.R_slice HO_4.out
            subst eo8
            have p125 : 0 ≤ (x5_1 : Int) := of_decide_eq_true (by first | (with_reducible assumption) | assumption)
            have q125 : x5_1 < (t122.length : Int) := of_decide_eq_true (by first | (with_reducible assumption) | assumption)
            obtain ⟨ad125, e125, hx125_0, hx125_1⟩ := at_T50 (Kd.R_reads' HO_4.out).2.2 x5_1 p125 q125
            cases e125
            replace p125 := eq_true p125
            replace q125 := eq_true q125
            go_wp2
            go_roundg k1
            case measure => have := HK1.out; omega
            case rel => exact ⟨(wrap64 (x5_1 + 1)), (by first | rfl | (simp; done) | (simp [*]; done)), H', ⟨by have := HK1.out; omega⟩, ⟨by (with_reducible repeat (first | apply Kd.R_alloc | apply Kd.R_drewN | apply Kd.R_drew)); exact HO_4.out⟩, ⟨by repeat (first | (with_reducible first | exact HB.out | apply below_alloc | apply pw_below_drewN | apply below_drew1) | exact HB.out)⟩⟩
        · rw [if_neg c5] at H
          exact absurd H (by simp)
      · rw [if_neg c4] at H
        have c4b0 : decide (x5_1 < (t122.length : Int)) = false := decide_eq_false c4
        clear c4
        simp only [Option.some.injEq, Prod.mk.injEq] at H
        obtain ⟨rfl, rfl⟩ := H
        obtain ⟨Ao9, co9, eo9⟩ := Kd.R_slice HO_4.out
        subst eo9
        go_wp2
        go_ret2
        exact ⟨by first | rfl | (simp [errW_none, errW_some] <;> rfl) | (simp [*, errW_none, errW_some] <;> rfl), by repeat (first | (with_reducible first | exact HB.out | apply below_alloc | apply pw_below_drewN | apply below_drew1) | exact HB.out)⟩
def clavierref20_split.l0 : Nat → ByteArray → List ByteArray → Int → Int → Option (List ByteArray)
  | 0, _, _, _, _ => none
  | k + 1, x0, x3, x4, x5 => if x5 ≤ (x0.size : Int) then (if x5 = (x0.size : Int) then (if 0 ≤ x4 then (if x4 ≤ x5 then (if x3.length < 8796093022208 then (clavierref20_split.l0 k x0 (x3 ++ [x0.extract (x4 : Int).toNat (x5 : Int).toNat]) (wrap64 (x5 + 1)) (wrap64 (x5 + 1))) else (none)) else (none)) else (none)) else (if 0 ≤ x5 then (if x5 < (x0.size : Int) then (if (bt x0 x5) = 59 then (if 0 ≤ x4 then (if x4 ≤ x5 then (if x3.length < 8796093022208 then (clavierref20_split.l0 k x0 (x3 ++ [x0.extract (x4 : Int).toNat (x5 : Int).toNat]) (wrap64 (x5 + 1)) (wrap64 (x5 + 1))) else (none)) else (none)) else (none)) else (clavierref20_split.l0 k x0 x3 x4 (wrap64 (x5 + 1)))) else (none)) else (none))) else (some x3)
def clavierref20_split.f (k : Nat) (a0 : ByteArray) : Option (List ByteArray) := clavierref20_split.l0 k a0 ([] : List ByteArray) 0 0
theorem clavierref20_split.mono_l : ∀ k, (∀ y0 y1 y2 y3, LeO (clavierref20_split.l0 k y0 y1 y2 y3) (clavierref20_split.l0 (k + 1) y0 y1 y2 y3))
  | 0 => fun _ _ _ _ r h => by simp [clavierref20_split.l0] at h
  | k + 1 => by
    have ih0 := clavierref20_split.mono_l k
    · intro y0 y1 y2 y3
      unfold clavierref20_split.l0
      repeat' first
      | (with_reducible exact ih0 _ _ _ _)
      | (with_reducible exact LeO.refl _)
      | (with_reducible exact LeO.none _)
      | (with_reducible refine LeO.ite ?_ ?_)
      | (with_reducible refine LeO.bind ?_ (fun _ => ?_))
      | exact ih0 _ _ _ _
      | exact LeO.none _
      | refine LeO.ite ?_ ?_
      | refine LeO.bind ?_ (fun _ => ?_)
theorem clavierref20_split.mono : ∀ a0 k, LeO (clavierref20_split.f k a0) (clavierref20_split.f (k + 1) a0) := by
  intro a0 k
  have ih0 := clavierref20_split.mono_l k
  unfold clavierref20_split.f
  repeat' first
      | (with_reducible exact ih0 _ _ _ _)
      | (with_reducible exact LeO.refl _)
      | (with_reducible exact LeO.none _)
      | (with_reducible refine LeO.ite ?_ ?_)
      | (with_reducible refine LeO.bind ?_ (fun _ => ?_))
      | exact ih0 _ _ _ _
      | exact LeO.none _
      | refine LeO.ite ?_ ?_
      | refine LeO.bind ?_ (fun _ => ?_)
set_option maxHeartbeats 8000000 in
set_option maxRecDepth 100000 in
theorem clavierref20_split.calls (k : Nat) (a0 : ByteArray) (r : List ByteArray) (w : World) (h : clavierref20_split.f k a0 = some r) :
    Calls Tryd.prog 25 #[.string a0] w fun e w' => ∃ v0_ : Value, e = .returned (v0_) ∧ Kd.R Kd.string 9 w' w.heap.size (fun _ => True) v0_ r ∧ Below w.heap.size w w' := by
  have HB := Aside0.mk (Below.refl w.heap.size w)
  have H : (clavierref20_split.l0 k a0 ([] : List ByteArray) 0 0) = some r := h
  clear h
  have H' := Aside0.mk H
  clear H
  go_enter Tryd.func25, Tryd.ntmps25
  go_wp2
  go_loopg [3, 4, 5] k (fun kq v3 v4 v5 w' => ∃ (x3_1 : List ByteArray) (x4_1 : Int) (x5_1 : Int), v4 = .int .i64 x4_1 ∧ v5 = .int .i64 x5_1 ∧ Aside0 (clavierref20_split.l0 kq a0 x3_1 x4_1 x5_1 = some r) ∧ Aside0 (kq ≤ k) ∧ Aside0 (Kd.R Kd.string 9 w' w.heap.size (fun _ => True) v3 x3_1) ∧ Aside0 (Below w.heap.size w w'))
  case atStart => exact ⟨(([] : List ByteArray)), (0), (0), (by first | rfl | (simp; done) | (simp [*]; done)), (by first | rfl | (simp; done) | (simp [*]; done)), H', ⟨Nat.le_refl _⟩, ⟨by first | exact Kd.R_nil _ _ _ _ _ | exact Kd.N_nil _ _ _ _ _ | exact Kd.V_nil _ _ _ _ _ | exact Kd.Q_nil _ _ _ _ _ | exact Kd.S_nil _ _ _ _ _⟩, ⟨by repeat (first | (with_reducible first | exact HB.out | apply below_alloc | apply pw_below_drewN | apply below_drew1) | exact HB.out)⟩⟩
  case round =>
    clear H'
    obtain ⟨x3_1, x4_1, x5_1, rfl, rfl, HA, HK1, HO_3, HB⟩ := hrel
    cases gk with
    | zero => exact absurd HA.out (by simp [clavierref20_split.l0])
    | succ k1 =>
      have H := HA.out
      clear HA
      simp only [clavierref20_split.l0] at H
      by_cases c2 : x5_1 ≤ (a0.size : Int)
      · rw [if_pos c2] at H
        have c2b0 : decide (x5_1 ≤ (a0.size : Int)) = true := decide_eq_true c2
        clear c2
        by_cases c3 : x5_1 = (a0.size : Int)
        · rw [if_pos c3] at H
          have c3b0 : (x5_1 == (a0.size : Int)) = true := beq_iff_eq.mpr c3
          have c3b1 : (x5_1 != (a0.size : Int)) = false := bne_eq_false_iff_eq.mpr c3
          clear c3
          by_cases c4 : 0 ≤ x4_1
          · rw [if_pos c4] at H
            have c4b0 := eq_true c4
            have c4b1 : decide (0 ≤ x4_1) = true := decide_eq_true c4
            clear c4
            by_cases c5 : x4_1 ≤ x5_1
            · rw [if_pos c5] at H
              have c5b0 := eq_true c5
              have c5b1 : decide (x4_1 ≤ x5_1) = true := decide_eq_true c5
              clear c5
              have c6b0 := eq_true (of_decide_eq_true (by first | (with_reducible assumption) | assumption) : x5_1 ≤ (a0.size : Int))
              by_cases c7 : x3_1.length < 8796093022208
              · rw [if_pos c7] at H
                have LMc7 := Aside0.mk c7
                clear c7
                obtain ⟨y134, hy134⟩ : ∃ y_ : List ByteArray, y_ = (x3_1 ++ [a0.extract (x4_1 : Int).toNat (x5_1 : Int).toNat]) := ⟨_, rfl⟩
                replace H : (clavierref20_split.l0 k1 a0 y134 (wrap64 (x5_1 + 1)) (wrap64 (x5_1 + 1))) = some r := by first | (rw [hy134]; with_reducible exact H) | (have H2_ := (Option.bind_some _ _).symm.trans H; rw [hy134]; with_reducible exact H2_) | (have H2_ := (Option.bind_some _ _).symm.trans H; with_reducible exact H2_) | with_reducible exact H | (rw [hy134]; exact H) | exact H
                have Ny134 := Aside0.mk hy134
                clear hy134
                have H' := Aside0.mk H
                clear H
                go_wp2_with (first | ((with_reducible refine gate_builtin (b := .append) (xs := #[.tmp 22, .tmp 27]) rfl ?_); at_builtin; refine Kd.R_append Kd.string (w0 := w) w.heap.size rfl (.tmp 22) (.tmp 27) 34 9 (.string ⟨#[]⟩) 16 rfl Tryd.underlying34 info9 rfl (by decide) (by omega) u3 x3_1 (a0.extract (x4_1 : Int).toNat (x5_1 : Int).toNat) [.string (a0.extract (x4_1 : Int).toNat (x5_1 : Int).toNat)] (fun _ => True) (fun _ => False) rfl rfl ?aP (fun _ hk => hk.elim) ?aF ?aO ?aB ?aS ?aL ?_; (case aP => exact rfl); (case aB => exact (by repeat (first | (with_reducible first | exact HB.out | apply below_alloc | apply pw_below_drewN | apply below_drew1) | exact HB.out))); (case aF => exact (fun _ _ => trivial)); (case aO => exact (by (with_reducible repeat (first | apply Kd.R_alloc | apply Kd.R_drewN | apply Kd.R_drew)); exact HO_3.out)); (case aS => exact (below_size (by repeat (first | (with_reducible first | exact HB.out | apply below_alloc | apply pw_below_drewN | apply below_drew1) | exact HB.out)))); (case aL => have := LMc7.out; omega); intro v135 w8 ho hb hg hat; rw [← Ny134.out] at ho; have n0_ := Aside0.mk (hb); have n1_ := Aside0.mk (ho); clear HB; clear HO_3; have HB := n0_; have HO136 := n1_; clear n0_ n1_; clear ho hb hg hat))
                go_roundg k1
                case measure => have := HK1.out; omega
                case rel => exact ⟨(y134), (wrap64 (x5_1 + 1)), (wrap64 (x5_1 + 1)), (by first | rfl | (simp; done) | (simp [*]; done)), (by first | rfl | (simp; done) | (simp [*]; done)), H', ⟨by have := HK1.out; omega⟩, ⟨by (with_reducible repeat (first | apply Kd.R_alloc | apply Kd.R_drewN | apply Kd.R_drew)); exact HO136.out⟩, ⟨by repeat (first | (with_reducible first | exact HB.out | apply below_alloc | apply pw_below_drewN | apply below_drew1) | exact HB.out)⟩⟩
              · rw [if_neg c7] at H
                exact absurd H (by simp)
            · rw [if_neg c5] at H
              exact absurd H (by simp)
          · rw [if_neg c4] at H
            exact absurd H (by simp)
        · rw [if_neg c3] at H
          have c3b0 : (x5_1 == (a0.size : Int)) = false := beq_eq_false_iff_ne.mpr c3
          have c3b1 : (x5_1 != (a0.size : Int)) = true := bne_iff_ne.mpr c3
          by_cases c9 : 0 ≤ x5_1
          · rw [if_pos c9] at H
            have c9b0 : decide (0 ≤ x5_1) = true := decide_eq_true c9
            clear c9
            by_cases c10 : x5_1 < (a0.size : Int)
            · rw [if_pos c10] at H
              have c10b0 : decide (x5_1 < (a0.size : Int)) = true := decide_eq_true c10
              clear c10
              by_cases c12 : (bt a0 x5_1) = 59
              · rw [if_pos c12] at H
                have c12b0 : ((bt a0 x5_1) == 59) = true := beq_iff_eq.mpr c12
                have c12b1 : ((bt a0 x5_1) != 59) = false := bne_eq_false_iff_eq.mpr c12
                clear c12
                by_cases c13 : 0 ≤ x4_1
                · rw [if_pos c13] at H
                  have c13b0 := eq_true c13
                  have c13b1 : decide (0 ≤ x4_1) = true := decide_eq_true c13
                  clear c13
                  by_cases c14 : x4_1 ≤ x5_1
                  · rw [if_pos c14] at H
                    have c14b0 := eq_true c14
                    have c14b1 : decide (x4_1 ≤ x5_1) = true := decide_eq_true c14
                    clear c14
                    have c15b0 := eq_true (of_decide_eq_true (by first | (with_reducible assumption) | assumption) : x5_1 ≤ (a0.size : Int))
                    by_cases c16 : x3_1.length < 8796093022208
                    · rw [if_pos c16] at H
                      have LMc16 := Aside0.mk c16
                      clear c16
                      obtain ⟨y137, hy137⟩ : ∃ y_ : List ByteArray, y_ = (x3_1 ++ [a0.extract (x4_1 : Int).toNat (x5_1 : Int).toNat]) := ⟨_, rfl⟩
                      replace H : (clavierref20_split.l0 k1 a0 y137 (wrap64 (x5_1 + 1)) (wrap64 (x5_1 + 1))) = some r := by first | (rw [hy137]; with_reducible exact H) | (have H2_ := (Option.bind_some _ _).symm.trans H; rw [hy137]; with_reducible exact H2_) | (have H2_ := (Option.bind_some _ _).symm.trans H; with_reducible exact H2_) | with_reducible exact H | (rw [hy137]; exact H) | exact H
                      have Ny137 := Aside0.mk hy137
                      clear hy137
                      have H' := Aside0.mk H
                      clear H
                      have p11 : 0 ≤ (x5_1 : Int) := of_decide_eq_true (by first | (with_reducible assumption) | assumption)
                      have q11 : x5_1 < (a0.size : Int) := of_decide_eq_true (by first | (with_reducible assumption) | assumption)
                      have hx11 := bt_at a0 x5_1
                      replace p11 := eq_true p11
                      replace q11 := eq_true q11
                      go_wp2_with (first | ((with_reducible refine gate_builtin (b := .append) (xs := #[.tmp 22, .tmp 27]) rfl ?_); at_builtin; refine Kd.R_append Kd.string (w0 := w) w.heap.size rfl (.tmp 22) (.tmp 27) 34 9 (.string ⟨#[]⟩) 16 rfl Tryd.underlying34 info9 rfl (by decide) (by omega) u3 x3_1 (a0.extract (x4_1 : Int).toNat (x5_1 : Int).toNat) [.string (a0.extract (x4_1 : Int).toNat (x5_1 : Int).toNat)] (fun _ => True) (fun _ => False) rfl rfl ?aP (fun _ hk => hk.elim) ?aF ?aO ?aB ?aS ?aL ?_; (case aP => exact rfl); (case aB => exact (by repeat (first | (with_reducible first | exact HB.out | apply below_alloc | apply pw_below_drewN | apply below_drew1) | exact HB.out))); (case aF => exact (fun _ _ => trivial)); (case aO => exact (by (with_reducible repeat (first | apply Kd.R_alloc | apply Kd.R_drewN | apply Kd.R_drew)); exact HO_3.out)); (case aS => exact (below_size (by repeat (first | (with_reducible first | exact HB.out | apply below_alloc | apply pw_below_drewN | apply below_drew1) | exact HB.out)))); (case aL => have := LMc16.out; omega); intro v138 w17 ho hb hg hat; rw [← Ny137.out] at ho; have n0_ := Aside0.mk (hb); have n1_ := Aside0.mk (ho); clear HB; clear HO_3; have HB := n0_; have HO139 := n1_; clear n0_ n1_; clear ho hb hg hat))
                      go_roundg k1
                      case measure => have := HK1.out; omega
                      case rel => exact ⟨(y137), (wrap64 (x5_1 + 1)), (wrap64 (x5_1 + 1)), (by first | rfl | (simp; done) | (simp [*]; done)), (by first | rfl | (simp; done) | (simp [*]; done)), H', ⟨by have := HK1.out; omega⟩, ⟨by (with_reducible repeat (first | apply Kd.R_alloc | apply Kd.R_drewN | apply Kd.R_drew)); exact HO139.out⟩, ⟨by repeat (first | (with_reducible first | exact HB.out | apply below_alloc | apply pw_below_drewN | apply below_drew1) | exact HB.out)⟩⟩
                    · rw [if_neg c16] at H
                      exact absurd H (by simp)
                  · rw [if_neg c14] at H
                    exact absurd H (by simp)
                · rw [if_neg c13] at H
                  exact absurd H (by simp)
              · rw [if_neg c12] at H
                have c12b0 : ((bt a0 x5_1) == 59) = false := beq_eq_false_iff_ne.mpr c12
                have c12b1 : ((bt a0 x5_1) != 59) = true := bne_iff_ne.mpr c12
                have H' := Aside0.mk H
                clear H
                have p11 : 0 ≤ (x5_1 : Int) := of_decide_eq_true (by first | (with_reducible assumption) | assumption)
                have q11 : x5_1 < (a0.size : Int) := of_decide_eq_true (by first | (with_reducible assumption) | assumption)
                have hx11 := bt_at a0 x5_1
                replace p11 := eq_true p11
                replace q11 := eq_true q11
                go_wp2
                go_roundg k1
                case measure => have := HK1.out; omega
                case rel => exact ⟨(x3_1), (x4_1), (wrap64 (x5_1 + 1)), (by first | rfl | (simp; done) | (simp [*]; done)), (by first | rfl | (simp; done) | (simp [*]; done)), H', ⟨by have := HK1.out; omega⟩, ⟨by (with_reducible repeat (first | apply Kd.R_alloc | apply Kd.R_drewN | apply Kd.R_drew)); exact HO_3.out⟩, ⟨by repeat (first | (with_reducible first | exact HB.out | apply below_alloc | apply pw_below_drewN | apply below_drew1) | exact HB.out)⟩⟩
            · rw [if_neg c10] at H
              exact absurd H (by simp)
          · rw [if_neg c9] at H
            exact absurd H (by simp)
      · rw [if_neg c2] at H
        have c2b0 : decide (x5_1 ≤ (a0.size : Int)) = false := decide_eq_false c2
        clear c2
        obtain rfl := Option.some.inj H
        go_wp2
        go_ret
        exact ⟨_, by first | rfl | (simp [errW_none, errW_some] <;> rfl) | (simp [*, errW_none, errW_some] <;> rfl), by (with_reducible repeat (first | apply Kd.R_alloc | apply Kd.R_drewN | apply Kd.R_drew)); exact HO_3.out, by repeat (first | (with_reducible first | exact HB.out | apply below_alloc | apply pw_below_drewN | apply below_drew1) | exact HB.out)⟩
end Go.Proofs.YtclnanhgcnopdaaDoor.G
end
section
namespace Go.Proofs.YtclnanhgcnopdaaDoor
set_option linter.unusedVariables false
set_option linter.unusedSimpArgs false
open Go.RowKit Kit G Go.Proofs.YtclnanhgcnopdaaDoorW.PrintWords
theorem bt_list {s : ByteArray} {i : Nat} (h : i < s.size) : bt s (i : Int) = ((s.data.toList[i]'(by simpa using h)).toNat : Int) := by
  unfold bt
  rw [dif_pos (by simpa using h)]
  rfl
theorem w64 {i : Nat} (h : i ≤ 1000000000000) : wrap64 ((i : Int) + 1) = ((i + 1 : Nat) : Int) := by unfold wrap64; omega
theorem splitS_at (s : ByteArray) (a i : Nat) (c : UInt8) (ha : a ≤ i) (hi : i < s.size) (hc : s.data.toList[i]'(by simpa using hi) = c) (hno : ∀ j, a ≤ j → j < i → (hj : j < s.data.toList.length) → s.data.toList[j] ≠ c) :
    splitS c (s.extract a s.size) = s.extract a i :: splitS c (s.extract (i + 1) s.size) := by
  have hl : s.data.toList.length = s.size := by simp
  unfold splitS
  have e1 : (s.extract a s.size).data.toList = s.data.toList.drop a := by
    rw [extract_list, List.take_of_length_le (by rw [List.length_drop, hl]; omega)]
  have e2 : (s.extract (i + 1) s.size).data.toList = s.data.toList.drop (i + 1) := by
    rw [extract_list, List.take_of_length_le (by rw [List.length_drop, hl]; omega)]
  rw [e1, e2, splitL_at c (s.data.toList.drop a) (i - a) (by rw [List.getElem?_drop, show a + (i - a) = i by omega, List.getElem?_eq_getElem (by rw [hl]; exact hi), hc]) (fun j hj => by
    rw [List.getElem?_drop, List.getElem?_eq_getElem (by rw [hl]; omega)]
    intro e
    exact hno (a + j) (by omega) (by omega) (by rw [hl]; omega) (Option.some.inj e)), List.map_cons]
  congr 1
  · rw [← ofL_toList (s.extract a i), extract_list]
  · rw [List.drop_drop, show a + (i - a + 1) = i + 1 by omega]
theorem splitS_end (s : ByteArray) (a : Nat) (c : UInt8) (hno : ∀ j, a ≤ j → (hj : j < s.data.toList.length) → s.data.toList[j] ≠ c) : splitS c (s.extract a s.size) = [s.extract a s.size] := by
  have hl : s.data.toList.length = s.size := by simp
  unfold splitS
  have e1 : (s.extract a s.size).data.toList = s.data.toList.drop a := by
    rw [extract_list, List.take_of_length_le (by rw [List.length_drop, hl]; omega)]
  rw [splitL_none c _ (fun hm => by
    rw [e1] at hm
    obtain ⟨k, hk, e⟩ := List.mem_iff_getElem.1 hm
    rw [List.getElem_drop] at e
    exact hno (a + k) (by omega) (by rw [List.length_drop] at hk; omega) e)]
  rw [List.map_cons, List.map_nil, ofL_toList]
theorem split_l0 (s : ByteArray) (hs : s.size ≤ 1000000) (d : Nat) : ∀ (k a i : Nat) (out : List ByteArray), a ≤ i → i ≤ s.size → s.size - i = d → d + 2 ≤ k → out.length ≤ i → (∀ j, a ≤ j → j < i → (hj : j < s.data.toList.length) → s.data.toList[j] ≠ 59) →
    clavierref20_split.l0 k s out (a : Int) (i : Int) = some (out ++ splitS 59 (s.extract a s.size)) := by
  have hl : s.data.toList.length = s.size := by simp
  induction d with
  | zero =>
    intro k a i out ha hi hd hk ho hno
    obtain ⟨k, rfl⟩ : ∃ m, k = m + 2 := ⟨k - 2, by omega⟩
    obtain rfl : i = s.size := by omega
    have hw := w64 (i := s.size) (by omega)
    rw [clavierref20_split.l0, if_pos (by omega), if_pos rfl, if_pos (by omega), if_pos (by omega), if_pos (by omega), hw, clavierref20_split.l0, if_neg (by omega)]
    rw [splitS_end s a 59 (fun j h1 hj => hno j h1 (by omega) hj)]
    simp
  | succ d ih =>
    intro k a i out ha hi hd hk ho hno
    obtain ⟨k, rfl⟩ : ∃ m, k = m + 1 := ⟨k - 1, by omega⟩
    have hlt : i < s.size := by omega
    have hw := w64 (i := i) (by omega)
    have hb := bt_list hlt
    rw [clavierref20_split.l0, if_pos (by omega), if_neg (by omega), if_pos (by omega), if_pos (by omega)]
    by_cases hc : s.data.toList[i]'(by rw [hl]; exact hlt) = 59
    · rw [if_pos (by rw [hb, hc]; rfl), if_pos (by omega), if_pos (by omega), if_pos (by omega), hw]
      rw [ih k (i + 1) (i + 1) _ (Nat.le_refl _) (by omega) (by omega) (by omega) (by rw [List.length_append]; simp; omega) (fun j h1 h2 => by omega)]
      rw [splitS_at s a i 59 ha hlt hc hno]
      simp
    · rw [if_neg (by
        rw [hb]
        intro e
        have h59 : (59 : UInt8).toNat = 59 := rfl
        exact hc (UInt8.toNat_inj.1 (by omega))), hw]
      exact ih k a (i + 1) out (by omega) (by omega) (by omega) (by omega) (by omega) (fun j h1 h2 hj => by
        by_cases e : j = i
        · subst e; exact hc
        · exact hno j h1 (by omega) hj)
theorem split_f (s : ByteArray) (hs : s.size ≤ 1000000) : clavierref20_split.f (s.size + 2) s = some (splitS 59 s) := by
  unfold clavierref20_split.f
  have h := split_l0 s hs s.size (s.size + 2) 0 0 [] (Nat.le_refl _) (Nat.zero_le _) (by omega) (by omega) (Nat.le_refl _) (fun j h1 h2 => by omega)
  have e : s.extract 0 s.size = s := by simp
  rw [e, List.nil_append] at h
  exact h
def findS (s : ByteArray) (l : List S50) : ByteArray × Bool := match l with
  | [] => (⟨#[]⟩, false)
  | x :: l => if x.f0 = s then (x.f1, true) else findS s l
theorem toL_inj {a b : ByteArray} : (a.toList = b.toList) ↔ a = b := by
  constructor
  · intro e
    rw [Lib.toList_data, Lib.toList_data] at e
    exact ByteArray.ext (Array.toList_inj.1 e)
  · rintro rfl; rfl
theorem look_l0 (s : ByteArray) (L : List S50) (hL : L.length ≤ 100) (d : Nat) : ∀ k i : Nat, L.length - i = d → i ≤ L.length → d < k → clavierref20_Look.l0 k s L (i : Int) = some (findS s (L.drop i)) := by
  induction d with
  | zero =>
    intro k i hd hi hk
    obtain ⟨k, rfl⟩ : ∃ m, k = m + 1 := ⟨k - 1, by omega⟩
    rw [clavierref20_Look.l0, if_neg (by omega), List.drop_eq_nil_of_le (by omega)]
    rfl
  | succ d ih =>
    intro k i hd hi hk
    obtain ⟨k, rfl⟩ : ∃ m, k = m + 1 := ⟨k - 1, by omega⟩
    have hlt : i < L.length := by omega
    have hw := w64 (i := i) (by omega)
    rw [clavierref20_Look.l0, if_pos (by omega), if_pos (by omega), List.drop_eq_getElem_cons hlt]
    have hr : rd_T50 L (i : Int) = L[i] := by unfold rd_T50; rw [Int.toNat_natCast]; simp [List.getD, hlt]
    rw [hr, findS]
    by_cases h : L[i].f0 = s
    · rw [if_pos (toL_inj.2 h), if_pos h]
    · rw [if_neg (fun e => h (toL_inj.1 e)), if_neg h, hw]
      exact ih k (i + 1) (by omega) (by omega) (by omega)
theorem look_f (s : ByteArray) : clavierref20_Look.f 13 s = some (lookB s) := by
  unfold clavierref20_Look.f
  obtain ⟨L, hL⟩ : ∃ L, clavierref20_all.f = some L := ⟨_, rfl⟩
  rw [hL, Option.bind_some]
  have hlen : L.length = 12 := by injection hL with hL; rw [← hL]; rfl
  have h := look_l0 s L (by omega) 12 13 0 (by omega) (by omega) (by omega)
  rw [List.drop_zero] at h
  refine h.trans (congrArg some ?_)
  injection hL with hL
  rw [← hL]
  by_cases h0 : s = ⟨#[84, 78]⟩
  · subst h0; decide
  by_cases h1 : s = ⟨#[110, 97, 109, 101]⟩
  · subst h1; decide
  by_cases h2 : s = ⟨#[67, 111]⟩
  · subst h2; decide
  by_cases h3 : s = ⟨#[99, 111, 108, 111, 114, 115]⟩
  · subst h3; decide
  by_cases h4 : s = ⟨#[82, 71, 66]⟩
  · subst h4; decide
  by_cases h5 : s = ⟨#[107, 99, 117, 117, 49]⟩
  · subst h5; decide
  by_cases h6 : s = ⟨#[107, 99, 117, 100, 49]⟩
  · subst h6; decide
  by_cases h7 : s = ⟨#[107, 99, 117, 102, 49]⟩
  · subst h7; decide
  by_cases h8 : s = ⟨#[107, 99, 117, 98, 49]⟩
  · subst h8; decide
  by_cases h9 : s = ⟨#[107, 98, 115]⟩
  · subst h9; decide
  by_cases h10 : s = ⟨#[107, 102, 49]⟩
  · subst h10; decide
  by_cases h11 : s = ⟨#[107, 100, 99, 104, 49]⟩
  · subst h11; decide
  have e : lookB s = (⟨#[]⟩, false) := by simp [lookB, h0, h1, h2, h3, h4, h5, h6, h7, h8, h9, h10, h11]
  rw [e]
  simp [findS, eq_comm, h0, h1, h2, h3, h4, h5, h6, h7, h8, h9, h10, h11]
end Go.Proofs.YtclnanhgcnopdaaDoor
end
section
namespace Go.Proofs.YtclnanhgcnopdaaDoor
set_option linter.unusedVariables false
set_option linter.unusedSimpArgs false
open Go.RowKit Kit G Go.Proofs.YtclnanhgcnopdaaDoorW.PrintWords
theorem splitC_calls (s : ByteArray) (hs : s.size ≤ 1000000) (w : World) : Calls Tryd.prog 25 #[.string s] w fun e w' => ∃ p n c R, e = .returned (.slice p n c) ∧ GRow 9 (.slice p n c) ((splitS 59 s).map Value.string) R ∧ Mine w w' R := by
  refine (clavierref20_split.calls (s.size + 2) s _ w (split_f s hs)).mono fun e w' ⟨v, h1, h2, h3⟩ => ?_
  obtain ⟨h0, inner, ho, hr⟩ := h2
  have e1 : inner = (splitS 59 s).map Value.string := by
    refine List.ext_getElem? fun j => ?_
    have hl := hr.1
    have h1s : Kd.string.sz = 1 := rfl
    rw [h1s, Nat.mul_one] at hl
    rcases Nat.lt_or_ge j (splitS 59 s).length with hj | hj
    · have h4 := hr.2 j ((splitS 59 s)[j]) (List.getElem?_eq_getElem hj)
      have h5 : (inner.drop (j * 1)).take 1 = [Value.string (splitS 59 s)[j]] := h4
      rw [Nat.mul_one] at h5
      have h6 : inner[j]? = some (Value.string (splitS 59 s)[j]) := by
        have := congrArg (fun l => l[0]?) h5
        simpa [List.getElem?_take, List.getElem?_drop] using this
      rw [h6, List.getElem?_map, List.getElem?_eq_getElem hj]
      rfl
    · rw [List.getElem?_eq_none (by omega), List.getElem?_map, List.getElem?_eq_none hj]
      rfl
  subst e1
  obtain ⟨R, hR, hM⟩ := GRow.of_own (T := 9) ho h3
  obtain ⟨p, n, c, rfl⟩ := hR.form
  exact ⟨p, n, c, R, h1, hR, hM⟩
theorem lookC_calls (s v : ByteArray) (k : Bool) (h : lookB s = (v, k)) (w : World) : Calls Tryd.prog 10 #[.string s] w fun e w' => e = .returned (.tuple #[.string v, .bool k]) ∧ Below w.heap.size w w' :=
  clavierref20_Look.calls 13 s v k w (by rw [look_f, h])
def soFar (l : List ByteArray) (k : Nat) : ByteArray := joinB [59] (((l.take k).map askedP).map (·.1))
theorem join_snoc (l : List (List UInt8)) (x : List UInt8) (h : l ≠ []) : Lib.join (l ++ [x]) [59] = Lib.join l [59] ++ 59 :: x := by
  cases l with
  | nil => exact absurd rfl h
  | cons y l => rw [List.cons_append, Lib.join_cons, Lib.join_cons]; simp [Lib.joinTail]
theorem soFar_step (l : List ByteArray) (k : Nat) (hk : k < l.length) : soFar l (k + 1) = (if k = 0 then ⟨#[]⟩ else soFar l k ++ ⟨#[59]⟩) ++ (askedP l[k]).1 := by
  unfold soFar
  rw [List.take_succ_eq_append_getElem hk, List.map_append, List.map_append]
  by_cases h0 : k = 0
  · subst h0
    rw [if_pos rfl]
    simp [joinB, Lib.join_one]
    apply ByteArray.ext
    simp
  · rw [if_neg h0]
    unfold joinB
    simp only [List.map_append, List.map_cons, List.map_nil]
    rw [join_snoc _ _ (by
      intro e
      have h1 := congrArg List.length e
      simp only [List.length_map, List.length_take, List.length_nil] at h1
      omega)]
    apply ByteArray.ext
    simp
theorem soFar_len (s : ByteArray) (hs : s.size ≤ 100000) (k : Nat) (hk : k ≤ (splitS 59 s).length) : (soFar (splitS 59 s) k).size ≤ 20100000000 := by
  have h := join_len [59] 200015 ((((splitS 59 s).take k).map askedP).map (·.1) |>.map (·.data.toList)) (fun x hx => by
    obtain ⟨y, hy, rfl⟩ := List.mem_map.1 hx
    obtain ⟨z, hz, rfl⟩ := List.mem_map.1 hy
    obtain ⟨u, hu, rfl⟩ := List.mem_map.1 hz
    have h1 := askedP_len u
    have h2 := splitS_len (List.mem_of_mem_take hu)
    have e : (askedP u).1.data.toList.length = (askedP u).1.size := by simp
    omega)
  have h2 := splitL_count 59 s.data.toList
  have e : s.data.toList.length = s.size := by simp
  have h3 : (splitS 59 s).length ≤ 100001 := by simp only [splitS, List.length_map]; omega
  simp only [List.length_map, List.length_cons, List.length_nil, List.length_take] at h
  have e2 : (soFar (splitS 59 s) k).size = (Lib.join ((((splitS 59 s).take k).map askedP).map (·.1) |>.map (·.data.toList)) [59]).length := by simp [soFar, joinB, ByteArray.size]
  rw [e2]
  have h4 : min k (splitS 59 s).length * (200015 + (0 + 1)) ≤ 100001 * 200016 := Nat.mul_le_mul (by omega) (by omega)
  omega
attribute [local irreducible] wpList Calls wpQuiet
set_option maxRecDepth 100000 in
theorem refused_calls (w : World) : Calls Tryd.prog 27 #[] w fun e w' => ∃ g1 g2, e = .returned (capsNo.v (some ⟨g2, 0, none⟩) 1) ∧ Mine w w' [(g2, IsCells [.slice (some ⟨g1, 0, none⟩) 1 1] 45), (g1, IsCells [.int .i64 0] 3)] := by
  have HO := Mine.start w
  go_enter Tryd.func27, Tryd.ntmps27
  go_wp2_with (first
      | ((with_reducible refine gate ?_); (first
      | ((with_reducible refine gateAt (N := 1) rfl ?_); refine own_litF HO rfl (n := 1) (cs := [.int .i64 0]) (T := 3) (by first | (go_simp; done) | (go_simp; rfl)) ?_; clear HO; intro g1 wN hgg1 HO; (try simp only [Act.put, List.setIfInBounds_toArray, List.set_cons_zero, List.set_cons_succ]))
      | ((with_reducible refine gateAt (N := 2) rfl ?_); refine own_litF HO rfl (n := 1) (cs := [.slice (some ⟨g1, 0, none⟩) 1 1]) (T := 45) (by first | (go_simp; done) | (go_simp; rfl)) ?_; clear HO; intro g2 wN hgg2 HO; (try simp only [Act.put, List.setIfInBounds_toArray, List.set_cons_zero, List.set_cons_succ]))
      | ((with_reducible refine gateAt (N := 0) rfl ?_); refine own_allocF (T := 28) HO rfl rfl Tryd.zeroValue28 rfl ?_; clear HO; intro gR wN hggR HO; (try simp only [Act.put, List.setIfInBounds_toArray, List.set_cons_zero, List.set_cons_succ]))
      | ((refine own_load (T := 28) HO rfl rfl rfl (by first | exact .head _ | exact .tail _ (.head _) | exact .tail _ (.tail _ (.head _)) | exact .tail _ (.tail _ (.tail _ (.head _))) | exact .tail _ (.tail _ (.tail _ (.tail _ (.head _)))) | exact .tail _ (.tail _ (.tail _ (.tail _ (.tail _ (.head _))))) | exact .tail _ (.tail _ (.tail _ (.tail _ (.tail _ (.tail _ (.head _)))))) | exact .tail _ (.tail _ (.tail _ (.tail _ (.tail _ (.tail _ (.tail _ (.head _)))))))) Tryd.isAgg28 Tryd.sizeOf28 (by repeat constructor) ?_); (try simp only [Act.put, List.setIfInBounds_toArray, List.set_cons_zero, List.set_cons_succ]))
      | ((refine own_store (T := 28) HO rfl rfl rfl rfl (by first | exact .here | exact .there (.here) | exact .there (.there (.here)) | exact .there (.there (.there (.here))) | exact .there (.there (.there (.there (.here)))) | exact .there (.there (.there (.there (.there (.here))))) | exact .there (.there (.there (.there (.there (.there (.here)))))) | exact .there (.there (.there (.there (.there (.there (.there (.here)))))))) Tryd.sizeOf28 (by repeat constructor) rfl ?_); clear HO; intro wN HO; (try simp only [Act.put, List.setIfInBounds_toArray, List.set_cons_zero, List.set_cons_succ])))))
  exact bodyPost_ret (own_results1 HO Tryd.results27 rfl (.tail _ (.tail _ (.head _))) Tryd.isAgg28 Tryd.sizeOf28 (by repeat constructor)) rfl ⟨g1, g2, rfl, HO.less (.cons_cons _ (.cons_cons _ (List.nil_sublist _)))⟩
set_option maxRecDepth 100000 in
set_option maxHeartbeats 4000000 in
theorem refAnswer_calls (s : ByteArray) (hs : s.size ≤ 100000) (w : World) : GivesOne 13 #[.string s] (capsS s) w := by
  unfold GivesOne
  have HO := Mine.start w
  obtain ⟨L, hL⟩ : ∃ L, splitS 59 s = L := ⟨_, rfl⟩
  have hsl : ∀ k, k ≤ L.length → (soFar L k).size ≤ 20100000000 := fun k hk => by subst hL; exact soFar_len s hs k hk
  have hml : ∀ x ∈ L, x.size ≤ 100000 := fun x hx => by subst hL; have := splitS_len hx; omega
  have hcs := splitC_calls s (by omega)
  rw [hL] at hcs
  obtain ⟨n, hn⟩ : ∃ n, L.length = n := ⟨_, rfl⟩
  rw [hn] at hsl
  have HCS := Lib.hid hcs
  have HSL := Lib.hid hsl
  have HML := Lib.hid hml
  have HN := Lib.hid hn
  have HNO : Hid ((L.map askedP).all (·.2) = false → capsS s = capsNo) := Lib.hid fun h => by unfold capsS askedL; rw [hL, if_neg (by rw [h]; decide)]
  have HALL : Hid ((L.map askedP).all (·.2) = true → capsS s = if 4096 < (soFar L n).size then capsNo else capsYes (soFar L n)) := Lib.hid fun h => by
    have e : capsData s = soFar L n := by unfold capsData soFar askedL; rw [hL, ← hn, List.take_length]
    have ha : (askedL s).all (·.2) = true := by unfold askedL; rw [hL]; exact h
    rw [capsS_eq, e]
    by_cases h4 : 4096 < (soFar L n).size
    · rw [if_pos h4, if_neg (fun h => h.2 h4)]
    · rw [if_neg h4, if_pos ⟨ha, h4⟩]
  have hnm : n ≤ 1000000 := by
    have h2 := splitL_count 59 s.data.toList
    have e : s.data.toList.length = s.size := by simp
    rw [← hn, ← hL]
    simp only [splitS, List.length_map]
    omega
  have HNM := Lib.hid hnm
  clear hs hsl hml hcs hn hL hnm
  go_enter Tryd.func13, Tryd.ntmps13
  go_wp2_with (first
      | (go_at_call 25; refine (HCS.out _).mono ?_; rintro eN w1 ⟨p, n', c, R, rfl, hGR, HM⟩; obtain rfl : n = n' := (by simpa [HN.out] using hGR.len.symm); have HGR := Lib.hid hGR; clear hGR; have HON := HO.join HM; clear HO HM; have HO := HON; clear HON; (simp only [List.nil_append, List.cons_append] at HO))
      | ((with_reducible refine gate ?_); (first
      | ((with_reducible refine gateAt (N := 2) rfl ?_); refine own_allocF (T := 28) HO rfl rfl Tryd.zeroValue28 rfl ?_; clear HO; intro gR wN hggR HO; (try simp only [Act.put, List.setIfInBounds_toArray, List.set_cons_zero, List.set_cons_succ])))))
  go_loopw [4, 5] (fun d i wr => ∃ k : Nat, k ≤ n ∧ i = .int .i64 k ∧ d = .string (soFar L k) ∧ Mine w wr ((gR, IsCells [.int .i64 0, .int .u8 0, .slice none 0 0, .string ⟨#[]⟩, .int .u8 0, .string ⟨#[]⟩] 28) :: R) ∧ Hid (((L.take k).map askedP).all (·.2) = true)) (fun _ i _ => n - (intOf i).toNat)
  case atStart => exact ⟨0, Nat.zero_le _, rfl, rfl, HO, Lib.hid rfl⟩
  case round =>
    obtain ⟨k, hk, rfl, rfl, HO2, HG⟩ := hrel
    clear HO
    have HO := HO2
    clear HO2
    by_cases hlt : k < n
    · obtain ⟨b, o, hbo, hcell⟩ := (HGR.out.readsT HO (.cons .here)).2.1 k (.string (L.getD k ⟨#[]⟩)) (by rw [List.getElem?_map, List.getElem?_eq_getElem (by rw [HN.out]; exact hlt)]; simp [List.getD, HN.out, hlt])
      subst hbo
      obtain ⟨x, hx⟩ : ∃ x, L.getD k ⟨#[]⟩ = x := ⟨_, rfl⟩
      rw [hx] at hcell
      have hxi : L[k]'(by rw [HN.out]; exact hlt) = x := by rw [← hx]; simp [List.getD, HN.out, hlt]
      have hx1 : x.size ≤ 100000 := HML.out x (by rw [← hxi]; exact List.getElem_mem _)
      have hst := soFar_step L k (by rw [HN.out]; exact hlt)
      rw [hxi] at hst
      have hgo : ((L.take (k + 1)).map askedP).all (·.2) = (askedP x).2 := by
        rw [List.take_succ_eq_append_getElem (by rw [HN.out]; exact hlt), List.map_append, List.map_cons, List.map_nil, all_snoc, HG.out, hxi, Bool.true_and]
      obtain ⟨ob, ho⟩ : ∃ ob, unhexL x.data.toList = ob := ⟨_, rfl⟩
      have hnl := unhexD_len x.data.toList
      rw [ho] at hnl
      obtain ⟨nm, hnm⟩ : ∃ nm, ob.getD [] = nm := ⟨_, rfl⟩
      rw [hnm] at hnl
      have hnl2 : nm.length ≤ 100000 := by
        have : x.data.toList.length = x.size := by simp
        omega
      obtain ⟨v, kk, hvk⟩ : ∃ v k, lookB (ofL nm) = (v, k) := ⟨_, _, rfl⟩
      have hv7 := lookB_len (ofL nm)
      rw [hvk] at hv7
      obtain ⟨ok, hok⟩ : ∃ ok, ob.isSome = ok := ⟨_, rfl⟩
      have hpp : askedP x = (ofL (hexL nm ++ 61 :: hexL v.data.toList), ok && kk) := by simp only [askedP, ho, hnm, hvk, hok]
      have cU := fun W => refUnhex_calls x W (by omega)
      rw [ho] at cU
      unfold UnhexAns at cU
      rw [hnm, hok] at cU
      rw [hpp] at hst hgo
      have HU := Lib.hid cU
      have HGO := Lib.hid hgo
      have HST := Lib.hid hst
      have HNL := Lib.hid hnl2
      have HV7 := Lib.hid hv7
      have HVK := Lib.hid hvk
      have hD := HSL.out k (by omega)
      obtain ⟨dd, hdd⟩ : ∃ dd, soFar L k = dd := ⟨_, rfl⟩
      rw [hdd] at HST hD
      have HD := Lib.hid hD
      have HDD := Lib.hid hdd
      have HK := Lib.hid (And.intro hk hlt)
      have hb1 : decide ((k : Int) < (n : Int)) = true := decide_eq_true (by omega)
      have hb2 : decide (k < n) = true := decide_eq_true hlt
      have HPRE : Hid ((askedP x).2 = false → capsS s = capsNo) := Lib.hid fun h => HNO.out (by
        refine all_prefix (l := (L.take (k + 1)).map askedP) ((List.take_prefix _ _).map _) ?_
        rw [List.take_succ_eq_append_getElem (by rw [HN.out]; exact hlt), List.map_append, List.map_cons, List.map_nil, all_snoc, hxi, h, Bool.and_false])
      rw [hpp] at HPRE
      clear hx hxi hx1 hst hgo ho hnl hnm hnl2 hv7 hok cU hpp hvk hD
      rw [hdd]
      clear hdd
      cases ok
      · go_wp2_with (first
      | (go_at_call 26; refine (HU.out _).mono ?_; rintro eN wN ⟨vv, rfl, hown, hbN⟩; obtain ⟨pu, cu, rfl, hr, hc, _⟩ := hown.reads; have hcv := run_str_of (P := Tryd.prog) (src := 33) (dst := 9) (c := cu) Tryd.underlying33 Tryd.underlying5 Tryd.underlying9 hr rfl; have HON := HO.call hbN; clear HO hbN hown hc hr; have HO := HON; clear HON)
      | (go_at_call 10; refine (lookC_calls (ofL nm) v _ HVK.out _).mono ?_; rintro eN wN ⟨rfl, hbN⟩; clear hcv; have HON := HO.call hbN; clear HO hbN; have HO := HON; clear HON)
      | (go_at_call 27; refine (refused_calls _).mono ?_; rintro eN wN ⟨g1, g2, rfl, HM⟩; have HON := (HO.join HM).perm List.perm_append_comm; clear HO HM; have HO := HON; clear HON; (simp only [List.nil_append, List.cons_append, capsNo, Sr.v] at HO ⊢))
      | ((with_reducible refine gate ?_); (first
      | ((refine own_load (T := 28) HO rfl rfl rfl (by first | exact .head _ | exact .tail _ (.head _) | exact .tail _ (.tail _ (.head _)) | exact .tail _ (.tail _ (.tail _ (.head _))) | exact .tail _ (.tail _ (.tail _ (.tail _ (.head _)))) | exact .tail _ (.tail _ (.tail _ (.tail _ (.tail _ (.head _))))) | exact .tail _ (.tail _ (.tail _ (.tail _ (.tail _ (.tail _ (.head _)))))) | exact .tail _ (.tail _ (.tail _ (.tail _ (.tail _ (.tail _ (.tail _ (.head _)))))))) Tryd.isAgg28 Tryd.sizeOf28 (by repeat constructor) ?_); (try simp only [Act.put, List.setIfInBounds_toArray, List.set_cons_zero, List.set_cons_succ]))
      | ((refine own_store (T := 28) HO rfl rfl rfl rfl (by first | exact .here | exact .there (.here) | exact .there (.there (.here)) | exact .there (.there (.there (.here))) | exact .there (.there (.there (.there (.here)))) | exact .there (.there (.there (.there (.there (.here))))) | exact .there (.there (.there (.there (.there (.there (.here)))))) | exact .there (.there (.there (.there (.there (.there (.there (.here)))))))) Tryd.sizeOf28 (by repeat constructor) rfl ?_); clear HO; intro wN HO; (try simp only [Act.put, List.setIfInBounds_toArray, List.set_cons_zero, List.set_cons_succ])))))
        exact bodyPost_ret (own_results1 HO Tryd.results13 rfl (.tail _ (.tail _ (.head _))) Tryd.isAgg28 Tryd.sizeOf28 (by repeat constructor)) rfl ⟨0, g1, g2, by rw [HPRE.out rfl]; rfl, by rw [HPRE.out rfl]; rfl, HO.less (.cons_cons _ (.cons_cons _ (List.nil_sublist _)))⟩
      cases kk
      · go_wp2_with (first
      | (go_at_call 26; refine (HU.out _).mono ?_; rintro eN wN ⟨vv, rfl, hown, hbN⟩; obtain ⟨pu, cu, rfl, hr, hc, _⟩ := hown.reads; have hcv := run_str_of (P := Tryd.prog) (src := 33) (dst := 9) (c := cu) Tryd.underlying33 Tryd.underlying5 Tryd.underlying9 hr rfl; have HON := HO.call hbN; clear HO hbN hown hc hr; have HO := HON; clear HON)
      | (go_at_call 10; refine (lookC_calls (ofL nm) v _ HVK.out _).mono ?_; rintro eN wN ⟨rfl, hbN⟩; clear hcv; have HON := HO.call hbN; clear HO hbN; have HO := HON; clear HON)
      | (go_at_call 27; refine (refused_calls _).mono ?_; rintro eN wN ⟨g1, g2, rfl, HM⟩; have HON := (HO.join HM).perm List.perm_append_comm; clear HO HM; have HO := HON; clear HON; (simp only [List.nil_append, List.cons_append, capsNo, Sr.v] at HO ⊢))
      | ((with_reducible refine gate ?_); (first
      | ((refine own_load (T := 28) HO rfl rfl rfl (by first | exact .head _ | exact .tail _ (.head _) | exact .tail _ (.tail _ (.head _)) | exact .tail _ (.tail _ (.tail _ (.head _))) | exact .tail _ (.tail _ (.tail _ (.tail _ (.head _)))) | exact .tail _ (.tail _ (.tail _ (.tail _ (.tail _ (.head _))))) | exact .tail _ (.tail _ (.tail _ (.tail _ (.tail _ (.tail _ (.head _)))))) | exact .tail _ (.tail _ (.tail _ (.tail _ (.tail _ (.tail _ (.tail _ (.head _)))))))) Tryd.isAgg28 Tryd.sizeOf28 (by repeat constructor) ?_); (try simp only [Act.put, List.setIfInBounds_toArray, List.set_cons_zero, List.set_cons_succ]))
      | ((refine own_store (T := 28) HO rfl rfl rfl rfl (by first | exact .here | exact .there (.here) | exact .there (.there (.here)) | exact .there (.there (.there (.here))) | exact .there (.there (.there (.there (.here)))) | exact .there (.there (.there (.there (.there (.here))))) | exact .there (.there (.there (.there (.there (.there (.here)))))) | exact .there (.there (.there (.there (.there (.there (.there (.here)))))))) Tryd.sizeOf28 (by repeat constructor) rfl ?_); clear HO; intro wN HO; (try simp only [Act.put, List.setIfInBounds_toArray, List.set_cons_zero, List.set_cons_succ])))))
        exact bodyPost_ret (own_results1 HO Tryd.results13 rfl (.tail _ (.tail _ (.head _))) Tryd.isAgg28 Tryd.sizeOf28 (by repeat constructor)) rfl ⟨0, g1, g2, by rw [HPRE.out rfl]; rfl, by rw [HPRE.out rfl]; rfl, HO.less (.cons_cons _ (.cons_cons _ (List.nil_sublist _)))⟩
      have hvl : v.data.toList.length = v.size := by simp
      obtain ⟨X, hX⟩ : ∃ X : ByteArray, ⟨(hexL nm).toArray⟩ = X := ⟨_, rfl⟩
      obtain ⟨Y, hY⟩ : ∃ Y : ByteArray, ⟨(hexL v.data.toList).toArray⟩ = Y := ⟨_, rfl⟩
      have hXs : X.size ≤ 200000 := by rw [← hX]; show (hexL nm).toArray.size ≤ _; rw [List.size_toArray, hexL_len]; have := HNL.out; omega
      have hYs : Y.size ≤ 14 := by rw [← hY]; show (hexL v.data.toList).toArray.size ≤ _; rw [List.size_toArray, hexL_len, hvl]; have h7 : v.size ≤ 7 := HV7.out; omega
      have hDs : dd.size ≤ 20100000000 := HD.out
      have HHX : Hid (∀ (p : Option Addr) (c : Nat) (W : World), Reads W p (nm.map byV) → Calls Tryd.prog 16 #[.slice p nm.length c] W fun e w' => e = .returned (.string X) ∧ Below W.heap.size W w') := Lib.hid fun p c W hr => by
        have h := refHex_calls p nm.length c nm W rfl (by have := HNL.out; omega) hr
        rw [hX] at h; exact h
      have HHY : Hid (∀ (p : Option Addr) (c : Nat) (W : World), Reads W p (v.data.toList.map byV) → Calls Tryd.prog 16 #[.slice p v.size c] W fun e w' => e = .returned (.string Y) ∧ Below W.heap.size W w') := Lib.hid fun p c W hr => by
        have h := refHex_calls p v.size c v.data.toList W hvl (by have h7 : v.size ≤ 7 := HV7.out; omega) hr
        rw [hY] at h; exact h
      have hst2 : soFar L (k + 1) = (if k = 0 then ⟨#[]⟩ else dd ++ ⟨#[59]⟩) ++ X ++ ⟨#[61]⟩ ++ Y := by
        rw [HST.out, ← ofL_add (hexL nm) (hexL v.data.toList) [], hX, hY, ByteArray.append_assoc, ByteArray.append_assoc]
        rw [ByteArray.append_assoc]
      clear HST hX hY hvl
      by_cases hk0 : k = 0
      · subst hk0
        have hd0 : dd = ⟨#[]⟩ := by rw [← HDD.out]; rfl
        subst hd0
        have hs1 : soFar L (0 + 1) = X ++ ⟨#[61]⟩ ++ Y := by
          rw [hst2, if_pos rfl]
          congr 2
        have HS1 := Lib.hid hs1
        clear hst2 hs1 hDs
        rw [Nat.add_zero] at hcell
        have k1 : X.size + 1 ≤ 9223372036854775807 := by omega
        have k2 : X.size + 1 + Y.size ≤ 9223372036854775807 := by omega
        go_wp2_with (first
      | (go_at_call 26; refine (HU.out _).mono ?_; rintro eN wN ⟨vv, rfl, hown, hbN⟩; obtain ⟨pu, cu, rfl, hr, hc, _⟩ := hown.reads; have hcv := run_str_of (P := Tryd.prog) (src := 33) (dst := 9) (c := cu) Tryd.underlying33 Tryd.underlying5 Tryd.underlying9 hr rfl; have HRU := Lib.hid hr; have HON := HO.call hbN; clear HO hbN hown hc hr; have HO := HON; clear HON)
      | (go_at_call 10; refine (lookC_calls (ofL nm) v _ HVK.out _).mono ?_; rintro eN wN ⟨rfl, hbN⟩; have HRV := Lib.hid (HRU.out.below hbN); clear hcv HRU; have HON := HO.call hbN; clear HO hbN; have HO := HON; clear HON)
      | (go_at_call 16; first | (refine (HHX.out pu cu _ HRV.out).mono ?_; rintro eN wN ⟨rfl, hbN⟩; have HON := HO.call hbN; clear HO hbN; have HO := HON; clear HON) | (refine (HHY.out (some ⟨gB, 0, none⟩) cB _ (HO.row (.head _)).reads).mono ?_; rintro eN wN ⟨rfl, hbN⟩; have HON := HO.call hbN; clear HO hbN; have HO := HON; clear HON))
      | ((with_reducible refine gate ?_); (first
      | ((with_reducible refine gateAt (N := 49) rfl ?_); refine own_bytesF (s := v) (e := 5) HO rfl rfl (by first | exact .const | exact .tmp rfl) Tryd.underlying9 Tryd.underlying33 Tryd.underlying5 ?_; clear HO; intro gB cB wN hggB HO; (try simp only [Act.put, List.setIfInBounds_toArray, List.set_cons_zero, List.set_cons_succ])))))
        go_roundw
        case rel => exact ⟨0 + 1, by omega, rfl, by rw [HS1.out]; exact congrArg Value.string (by congr 2), HO.less (List.sublist_cons_self _ _), Lib.hid HGO.out⟩
        case measure => have hnm := HNM.out; simp [intOf]; omega
      · have hs1 : soFar L (k + 1) = dd ++ ⟨#[59]⟩ ++ X ++ ⟨#[61]⟩ ++ Y := by rw [hst2, if_neg hk0]
        have HS1 := Lib.hid hs1
        have b1 : decide ((0 : Int) < (k : Int)) = true := decide_eq_true (by omega)
        have b2 : decide (0 < k) = true := decide_eq_true (by omega)
        have b3 : 0 < k := by omega
        clear hst2 hs1 hk0
        have k1 : dd.size + 1 ≤ 9223372036854775807 := by omega
        have k2 : dd.size + 1 + X.size ≤ 9223372036854775807 := by omega
        have k3 : dd.size + 1 + X.size + 1 ≤ 9223372036854775807 := by omega
        have k4 : dd.size + 1 + X.size + 1 + Y.size ≤ 9223372036854775807 := by omega
        go_wp2_with (first
      | (go_at_call 26; refine (HU.out _).mono ?_; rintro eN wN ⟨vv, rfl, hown, hbN⟩; obtain ⟨pu, cu, rfl, hr, hc, _⟩ := hown.reads; have hcv := run_str_of (P := Tryd.prog) (src := 33) (dst := 9) (c := cu) Tryd.underlying33 Tryd.underlying5 Tryd.underlying9 hr rfl; have HRU := Lib.hid hr; have HON := HO.call hbN; clear HO hbN hown hc hr; have HO := HON; clear HON)
      | (go_at_call 10; refine (lookC_calls (ofL nm) v _ HVK.out _).mono ?_; rintro eN wN ⟨rfl, hbN⟩; have HRV := Lib.hid (HRU.out.below hbN); clear hcv HRU; have HON := HO.call hbN; clear HO hbN; have HO := HON; clear HON)
      | (go_at_call 16; first | (refine (HHX.out pu cu _ HRV.out).mono ?_; rintro eN wN ⟨rfl, hbN⟩; have HON := HO.call hbN; clear HO hbN; have HO := HON; clear HON) | (refine (HHY.out (some ⟨gB, 0, none⟩) cB _ (HO.row (.head _)).reads).mono ?_; rintro eN wN ⟨rfl, hbN⟩; have HON := HO.call hbN; clear HO hbN; have HO := HON; clear HON))
      | ((with_reducible refine gate ?_); (first
      | ((with_reducible refine gateAt (N := 49) rfl ?_); refine own_bytesF (s := v) (e := 5) HO rfl rfl (by first | exact .const | exact .tmp rfl) Tryd.underlying9 Tryd.underlying33 Tryd.underlying5 ?_; clear HO; intro gB cB wN hggB HO; (try simp only [Act.put, List.setIfInBounds_toArray, List.set_cons_zero, List.set_cons_succ])))))
        go_roundw
        case rel => have hnm := HNM.out; exact ⟨k + 1, by omega, congrArg (Value.int .i64) (w64 (by omega)), by rw [HS1.out], HO.less (List.sublist_cons_self _ _), Lib.hid HGO.out⟩
        case measure => have hnm := HNM.out; rw [w64 (by omega)]; simp [intOf]; omega
    · have hkn : k = n := by omega
      subst hkn
      have hta : L.take k = L := by rw [← HN.out, List.take_length]
      have HG2 := HG
      rw [hta] at HG2
      have HA := Lib.hid (HALL.out HG2.out)
      obtain ⟨dd, hdd⟩ : ∃ dd, soFar L k = dd := ⟨_, rfl⟩
      rw [hdd] at HA
      rw [hdd]
      clear hdd hta
      by_cases h4 : 4096 < dd.size
      · have HE : Hid (capsS s = capsNo) := Lib.hid (by rw [HA.out, if_pos h4])
        have b1 : decide ((4096 : Int) < (dd.size : Int)) = true := decide_eq_true (by omega)
        have b2 : decide (4096 < dd.size) = true := decide_eq_true h4
        clear HA
        go_wp2_with (first
      | (go_at_call 27; refine (refused_calls _).mono ?_; rintro eN wN ⟨g1, g2, rfl, HM⟩; have HON := (HO.join HM).perm List.perm_append_comm; clear HO HM; have HO := HON; clear HON; (simp only [List.nil_append, List.cons_append, capsNo, Sr.v] at HO ⊢))
      | ((with_reducible refine gate ?_); (first
      | ((refine own_load (T := 28) HO rfl rfl rfl (by first | exact .head _ | exact .tail _ (.head _) | exact .tail _ (.tail _ (.head _)) | exact .tail _ (.tail _ (.tail _ (.head _))) | exact .tail _ (.tail _ (.tail _ (.tail _ (.head _)))) | exact .tail _ (.tail _ (.tail _ (.tail _ (.tail _ (.head _))))) | exact .tail _ (.tail _ (.tail _ (.tail _ (.tail _ (.tail _ (.head _)))))) | exact .tail _ (.tail _ (.tail _ (.tail _ (.tail _ (.tail _ (.tail _ (.head _)))))))) Tryd.isAgg28 Tryd.sizeOf28 (by repeat constructor) ?_); (try simp only [Act.put, List.setIfInBounds_toArray, List.set_cons_zero, List.set_cons_succ]))
      | ((refine own_store (T := 28) HO rfl rfl rfl rfl (by first | exact .here | exact .there (.here) | exact .there (.there (.here)) | exact .there (.there (.there (.here))) | exact .there (.there (.there (.there (.here)))) | exact .there (.there (.there (.there (.there (.here))))) | exact .there (.there (.there (.there (.there (.there (.here)))))) | exact .there (.there (.there (.there (.there (.there (.there (.here)))))))) Tryd.sizeOf28 (by repeat constructor) rfl ?_); clear HO; intro wN HO; (try simp only [Act.put, List.setIfInBounds_toArray, List.set_cons_zero, List.set_cons_succ])))))
        exact bodyPost_ret (own_results1 HO Tryd.results13 rfl (.tail _ (.tail _ (.head _))) Tryd.isAgg28 Tryd.sizeOf28 (by repeat constructor)) rfl ⟨0, g1, g2, by rw [HE.out]; rfl, by rw [HE.out]; rfl, HO.less (.cons_cons _ (.cons_cons _ (List.nil_sublist _)))⟩
      · have HE : Hid (capsS s = capsYes dd) := Lib.hid (by rw [HA.out, if_neg h4])
        have b1 : decide ((4096 : Int) < (dd.size : Int)) = false := decide_eq_false (by omega)
        have b2 : decide (4096 < dd.size) = false := decide_eq_false h4
        clear HA
        go_wp2_with (first
      | ((with_reducible refine gate ?_); (first
      | ((with_reducible refine gateAt (N := 56) rfl ?_); refine own_litF HO rfl (n := 1) (cs := [.int .i64 1]) (T := 3) (by first | (go_simp; done) | (go_simp; rfl)) ?_; clear HO; intro g1 wN hgg1 HO; (try simp only [Act.put, List.setIfInBounds_toArray, List.set_cons_zero, List.set_cons_succ]))
      | ((with_reducible refine gateAt (N := 57) rfl ?_); refine own_litF HO rfl (n := 1) (cs := [.slice (some ⟨g1, 0, none⟩) 1 1]) (T := 45) (by first | (go_simp; done) | (go_simp; rfl)) ?_; clear HO; intro g2 wN hgg2 HO; (try simp only [Act.put, List.setIfInBounds_toArray, List.set_cons_zero, List.set_cons_succ]))
      | ((refine own_load (T := 28) HO rfl rfl rfl (by first | exact .head _ | exact .tail _ (.head _) | exact .tail _ (.tail _ (.head _)) | exact .tail _ (.tail _ (.tail _ (.head _))) | exact .tail _ (.tail _ (.tail _ (.tail _ (.head _)))) | exact .tail _ (.tail _ (.tail _ (.tail _ (.tail _ (.head _))))) | exact .tail _ (.tail _ (.tail _ (.tail _ (.tail _ (.tail _ (.head _)))))) | exact .tail _ (.tail _ (.tail _ (.tail _ (.tail _ (.tail _ (.tail _ (.head _)))))))) Tryd.isAgg28 Tryd.sizeOf28 (by repeat constructor) ?_); (try simp only [Act.put, List.setIfInBounds_toArray, List.set_cons_zero, List.set_cons_succ]))
      | ((refine own_store (T := 28) HO rfl rfl rfl rfl (by first | exact .here | exact .there (.here) | exact .there (.there (.here)) | exact .there (.there (.there (.here))) | exact .there (.there (.there (.there (.here)))) | exact .there (.there (.there (.there (.there (.here))))) | exact .there (.there (.there (.there (.there (.there (.here)))))) | exact .there (.there (.there (.there (.there (.there (.there (.here)))))))) Tryd.sizeOf28 (by repeat constructor) rfl ?_); clear HO; intro wN HO; (try simp only [Act.put, List.setIfInBounds_toArray, List.set_cons_zero, List.set_cons_succ])))))
        exact bodyPost_ret (own_results1 HO Tryd.results13 rfl (.tail _ (.tail _ (.head _))) Tryd.isAgg28 Tryd.sizeOf28 (by repeat constructor)) rfl ⟨1, g1, g2, by rw [HE.out]; rfl, by rw [HE.out]; rfl, HO.less (.cons_cons _ (.cons_cons _ (List.nil_sublist _)))⟩
end Go.Proofs.YtclnanhgcnopdaaDoor
end
section
namespace Go.Proofs.YtclnanhgcnopdaaDoor.G
open Go.RowKit Go.Proofs.YtclnanhgcnopdaaDoorW.PrintWords Go.Proofs.YtclnanhgcnopdaaDoorW.PrintLast Go.Proofs.YtclnanhgcnopdaaDoorW.PrintMore
attribute [local go_sem] max2_int min2_int max_two min_two max_three min_three max_four min_four
set_option linter.unusedVariables false
set_option linter.unusedSimpArgs false
def clavierref02_Ints.l0 : Nat → List Int → List Int → Int → Option (Bool)
  | 0, _, _, _ => none
  | k + 1, x0, x1, x5 => if x5 < (x0.length : Int) then (if 0 ≤ x5 then (if x5 < (x1.length : Int) then (if (rd x0 x5) = (rd x1 x5) then (clavierref02_Ints.l0 k x0 x1 (wrap64 (x5 + 1))) else (some false)) else (none)) else (none)) else (some true)
def clavierref02_Ints.f (k : Nat) (l0 : List Int) (l1 : List Int) : Option (Bool) := if (l0.length : Int) = (l1.length : Int) then (clavierref02_Ints.l0 k l0 l1 0) else (some false)
theorem clavierref02_Ints.mono_l : ∀ k, (∀ y0 y1 y2, LeO (clavierref02_Ints.l0 k y0 y1 y2) (clavierref02_Ints.l0 (k + 1) y0 y1 y2))
  | 0 => fun _ _ _ r h => by simp [clavierref02_Ints.l0] at h
  | k + 1 => by
    have ih0 := clavierref02_Ints.mono_l k
    · intro y0 y1 y2
      unfold clavierref02_Ints.l0
      repeat' first
      | (with_reducible exact ih0 _ _ _)
      | (with_reducible exact LeO.refl _)
      | (with_reducible exact LeO.none _)
      | (with_reducible refine LeO.ite ?_ ?_)
      | (with_reducible refine LeO.bind ?_ (fun _ => ?_))
      | exact ih0 _ _ _
      | exact LeO.none _
      | refine LeO.ite ?_ ?_
      | refine LeO.bind ?_ (fun _ => ?_)
theorem clavierref02_Ints.mono : ∀ a0 a1 k, LeO (clavierref02_Ints.f k a0 a1) (clavierref02_Ints.f (k + 1) a0 a1) := by
  intro a0 a1 k
  have ih0 := clavierref02_Ints.mono_l k
  unfold clavierref02_Ints.f
  repeat' first
      | (with_reducible exact ih0 _ _ _)
      | (with_reducible exact LeO.refl _)
      | (with_reducible exact LeO.none _)
      | (with_reducible refine LeO.ite ?_ ?_)
      | (with_reducible refine LeO.bind ?_ (fun _ => ?_))
      | exact ih0 _ _ _
      | exact LeO.none _
      | refine LeO.ite ?_ ?_
      | refine LeO.bind ?_ (fun _ => ?_)
set_option maxHeartbeats 8000000 in
set_option maxRecDepth 100000 in
theorem clavierref02_Ints.calls (k : Nat) (A0 : Option Addr) (c0 : Nat) (l0 : List Int) (A1 : Option Addr) (c1 : Nat) (l1 : List Int) (r : Bool) (w : World) (hr0 : Kd.C (Kd.int .i64) w A0 l0.length l0) (hc0 : l0.length ≤ c0) (hr1 : Kd.C (Kd.int .i64) w A1 l1.length l1) (hc1 : l1.length ≤ c1) (h : clavierref02_Ints.f k l0 l1 = some r) :
    Calls Tryd.prog 21 #[.slice A0 l0.length c0, .slice A1 l1.length c1] w fun e w' => e = .returned (.bool r) ∧ Drawn0 w w' := by
  have HR0 := Aside0.mk hr0
  have HC0 := Aside0.mk hc0
  clear hr0 hc0
  have HR1 := Aside0.mk hr1
  have HC1 := Aside0.mk hc1
  clear hr1 hc1
  have H : (if (l0.length : Int) = (l1.length : Int) then (clavierref02_Ints.l0 k l0 l1 0) else (some false)) = some r := h
  clear h
  by_cases c3 : (l0.length : Int) = (l1.length : Int)
  · rw [if_pos c3] at H
    have c3b0 : ((l0.length : Int) == (l1.length : Int)) = true := beq_iff_eq.mpr c3
    have c3b1 : ((l0.length : Int) != (l1.length : Int)) = false := bne_eq_false_iff_eq.mpr c3
    have c3b2 : (l0.length == l1.length) = true := by first | simpa using c3 | (simp at c3 ⊢; omega)
    clear c3
    have H' := Aside0.mk H
    clear H
    go_enter Tryd.func21, Tryd.ntmps21
    go_wp2
    repeat (go_quiet (fail); try go_wp2)
    go_loopg [5] k (fun kq v5 w' => ∃ (x5_1 : Int), v5 = .int .i64 x5_1 ∧ Aside0 (clavierref02_Ints.l0 kq l0 l1 x5_1 = some r) ∧ Aside0 (kq ≤ k) ∧ Drawn0 w w')
    case atStart => exact ⟨(0), (by first | rfl | (simp; done) | (simp [*]; done)), H', ⟨Nat.le_refl _⟩, by repeat (first | exact Drawn0.refl _ | apply Drawn0.step)⟩
    case round =>
      clear H'
      try clear c1
      try clear c2
      try clear p2
      try clear c3
      try clear c3b0
      try clear c3b1
      try clear c3b2
      obtain ⟨x5_1, rfl, HA, HK1, ⟨m1, rfl⟩⟩ := hrel
      cases gk with
      | zero => exact absurd HA.out (by simp [clavierref02_Ints.l0])
      | succ k1 =>
        have H := HA.out
        clear HA
        simp only [clavierref02_Ints.l0] at H
        by_cases c4 : x5_1 < (l0.length : Int)
        · rw [if_pos c4] at H
          have c4b0 : decide (x5_1 < (l0.length : Int)) = true := decide_eq_true c4
          clear c4
          by_cases c5 : 0 ≤ x5_1
          · rw [if_pos c5] at H
            have c5b0 : decide (0 ≤ x5_1) = true := decide_eq_true c5
            clear c5
            by_cases c6 : x5_1 < (l1.length : Int)
            · rw [if_pos c6] at H
              have c6b0 : decide (x5_1 < (l1.length : Int)) = true := decide_eq_true c6
              clear c6
              by_cases c7 : (rd l0 x5_1) = (rd l1 x5_1)
              · rw [if_pos c7] at H
                have c7b0 : ((rd l0 x5_1) == (rd l1 x5_1)) = true := beq_iff_eq.mpr c7
                have c7b1 : ((rd l0 x5_1) != (rd l1 x5_1)) = false := bne_eq_false_iff_eq.mpr c7
                clear c7
                have H' := Aside0.mk H
                clear H
                have p127 : 0 ≤ (x5_1 : Int) := of_decide_eq_true (by first | (with_reducible assumption) | assumption)
                have q127 : x5_1 < (l0.length : Int) := of_decide_eq_true (by first | (with_reducible assumption) | assumption)
                obtain ⟨ad127, e127, hx127_0⟩ := Kd.at_int HR0.out x5_1 p127 q127
                cases e127
                replace p127 := eq_true p127
                replace q127 := eq_true q127
                have p128 : 0 ≤ (x5_1 : Int) := of_decide_eq_true (by first | (with_reducible assumption) | assumption)
                have q128 : x5_1 < (l1.length : Int) := of_decide_eq_true (by first | (with_reducible assumption) | assumption)
                obtain ⟨ad128, e128, hx128_0⟩ := Kd.at_int HR1.out x5_1 p128 q128
                cases e128
                replace p128 := eq_true p128
                replace q128 := eq_true q128
                go_wp2
                repeat (go_quiet (fail); try go_wp2)
                go_roundg k1
                case measure => have := HK1.out; omega
                case rel => exact ⟨(wrap64 (x5_1 + 1)), (by first | rfl | (simp; done) | (simp [*]; done)), H', ⟨by have := HK1.out; omega⟩, by repeat (first | exact Drawn0.refl _ | apply Drawn0.step)⟩
              · rw [if_neg c7] at H
                have c7b0 : ((rd l0 x5_1) == (rd l1 x5_1)) = false := beq_eq_false_iff_ne.mpr c7
                have c7b1 : ((rd l0 x5_1) != (rd l1 x5_1)) = true := bne_iff_ne.mpr c7
                obtain rfl := Option.some.inj H
                have p127 : 0 ≤ (x5_1 : Int) := of_decide_eq_true (by first | (with_reducible assumption) | assumption)
                have q127 : x5_1 < (l0.length : Int) := of_decide_eq_true (by first | (with_reducible assumption) | assumption)
                obtain ⟨ad127, e127, hx127_0⟩ := Kd.at_int HR0.out x5_1 p127 q127
                cases e127
                replace p127 := eq_true p127
                replace q127 := eq_true q127
                have p128 : 0 ≤ (x5_1 : Int) := of_decide_eq_true (by first | (with_reducible assumption) | assumption)
                have q128 : x5_1 < (l1.length : Int) := of_decide_eq_true (by first | (with_reducible assumption) | assumption)
                obtain ⟨ad128, e128, hx128_0⟩ := Kd.at_int HR1.out x5_1 p128 q128
                cases e128
                replace p128 := eq_true p128
                replace q128 := eq_true q128
                go_wp2
                repeat (go_quiet (fail); try go_wp2)
                go_ret
                exact ⟨by first | rfl | (simp; done) | (simp [*]; done), by repeat (first | exact Drawn0.refl _ | apply Drawn0.step)⟩
            · rw [if_neg c6] at H
              exact absurd H (by simp)
          · rw [if_neg c5] at H
            exact absurd H (by simp)
        · rw [if_neg c4] at H
          have c4b0 : decide (x5_1 < (l0.length : Int)) = false := decide_eq_false c4
          clear c4
          obtain rfl := Option.some.inj H
          go_wp2
          repeat (go_quiet (fail); try go_wp2)
          go_ret
          exact ⟨by first | rfl | (simp; done) | (simp [*]; done), by repeat (first | exact Drawn0.refl _ | apply Drawn0.step)⟩
  · rw [if_neg c3] at H
    have c3b0 : ((l0.length : Int) == (l1.length : Int)) = false := beq_eq_false_iff_ne.mpr c3
    have c3b1 : ((l0.length : Int) != (l1.length : Int)) = true := bne_iff_ne.mpr c3
    have c3b2 : (l0.length == l1.length) = false := by first | simpa using c3 | (simp at c3 ⊢; omega)
    obtain rfl := Option.some.inj H
    go_enter Tryd.func21, Tryd.ntmps21
    go_wp2
    repeat (go_quiet (fail); try go_wp2)
    go_ret
    exact ⟨by first | rfl | (simp; done) | (simp [*]; done), by repeat (first | exact Drawn0.refl _ | apply Drawn0.step)⟩
end Go.Proofs.YtclnanhgcnopdaaDoor.G
end
