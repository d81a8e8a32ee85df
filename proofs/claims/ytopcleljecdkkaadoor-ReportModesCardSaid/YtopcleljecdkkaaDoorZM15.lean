/- M: texts run together by shake.py: WWords WLast WApart Gclavierref19a PuRa RpN Gclavierref08a Gclavierref19a1 Ggclavierref06Get PuRb RpV RpM. -/
import Derived.ArgAppend
import Derived.Below
import Derived.BigQuiet
import Derived.ChangeOld
import Derived.ChangeSlices
import Derived.Deep.AppendLies
import Derived.Deep.CutBlock
import Derived.Deep.DeepCutAuto
import Derived.Deep.Draws
import Derived.Deep.LoopGhost
import Derived.Deep.Matrix
import Derived.Deep.OwnRows
import Derived.Deep.Quiet
import Derived.Deep.QuietTactic
import Derived.Deep.RegionHeld3
import Derived.Ground.Names2Prog
import Derived.Ground.SlgnProg
import Derived.KernelRfl
import Derived.Laws.AppendOwn
import Derived.Laws.AppendOwnNone
import Derived.Laws.Bits128
import Derived.Laws.BitsLemmas
import Derived.Laws.BytesArg
import Derived.Laws.Concat
import Derived.Laws.CopyRow
import Derived.Laws.IdiomCopy
import Derived.Laws.IdiomStrings
import Derived.Laws.MakeOwn
import Derived.Laws.OwnMore
import Derived.Laws.Rows
import Derived.Laws.Slices
import Derived.Laws.StructEq
import Derived.Laws.Tables
import Derived.Lib.AppendIntMem
import Derived.Lib.AppendStr
import Derived.Lib.ConvBytes
import Derived.Lib.Hide
import Derived.Lib.ItoaLen
import Derived.Lib.ItoaNum
import Derived.Lib.Join
import Derived.Lib.LaidTab
import Derived.Lib.Strings
import Derived.MapKept
import Derived.Maps.AppendAt
import Derived.OpenShut
import Derived.Orders
import Derived.OrdersHeld
import Derived.Outline
import Derived.OwnWalk
import Derived.ProofKit
import Derived.RowKit
import Derived.RowKit3
import Derived.Shelf.LaysM
import Derived.Shelf.Slices.Clone
import Derived.Shelf.SlicesE.Clone
import Derived.Shelf.Strconv.Itoa0
import Derived.Shelf.Strconv.Itoa1
import Derived.Shelf.Strconv.Itoa2
import Derived.Shelf.Strconv.Itoa3
import Derived.Shelf.Strings.Builder1
import Derived.Shelf.Strings.Builder2
import Derived.Shelf.Strings.Builder2Cap
import Derived.Shelf.Strings.BuilderCap
import Derived.Shelf.Strings.BuilderF
import Derived.Shelf.Strings.BuilderK
import Derived.Shelf.Strings.OnBuilder
import Derived.ShutString
import Derived.SizedLaws
import Derived.Still
import Derived.Tactics
import Derived.Test.YtopcleljecdkkaaDoorProg
import Derived.WalkKit
import Derived.WalkLawsBesides
import Derived.WalkSpells
import Derived.WideLaws
import Derived.Test.YtopcleljecdkkaaDoorZM1
import Derived.Test.YtopcleljecdkkaaDoorZM2
import Derived.Test.YtopcleljecdkkaaDoorZM3
import Derived.Test.YtopcleljecdkkaaDoorZM4
import Derived.Test.YtopcleljecdkkaaDoorZM5
import Derived.Test.YtopcleljecdkkaaDoorZM6
import Derived.Test.YtopcleljecdkkaaDoorZM7
import Derived.Test.YtopcleljecdkkaaDoorZM8
import Derived.Test.YtopcleljecdkkaaDoorZM9
import Derived.Test.YtopcleljecdkkaaDoorZM11
import Derived.Test.YtopcleljecdkkaaDoorZM16
section
set_option linter.unusedVariables false
set_option linter.unusedSimpArgs false
namespace Go.Proofs.YtopcleljecdkkaaDoorW.PrintWords
open Go.RowKit
section
variable {P : Program} {ops : Array Oper} {o : Oper} {a : Act} {Q : Exit → Act → World → Prop} {K : Act → World → Prop}
theorem step_append_cells {w0 W : World} (base : Nat) (hw : Region.wanted o (yielded ops a.tmps) = true) (s x : Operand) (t e : TypeId) (z : Value) (size bytes : Nat)
    (ho : o.op = .call { callee := .builtin .append, args := #[s, x], argTypes := #[t, t] })
    (ht : P.underlying t = some (.slice e)) (hinfo : (P.info? e).map (fun i => (i.zero, i.size, i.bytes)) = some (some z, size, bytes)) (hz : z.cells.size = size) (hs0 : 0 < size) (hb0 : 0 < bytes)
    (v : Value) (n : Nat) (xs ys : List Value) (hs : a.eval s = v) (hx : a.eval x = .slice (some ⟨W.heap.size, 0, none⟩) 1 1) (hys : ys.length = size) (h1 : ∀ u ∈ ys, u.oneCell' = true)
    (HO : W.ownsRow base e size v n xs) (HB : Below base w0 W) (hbase : base ≤ W.heap.size) (hl : (n + 1) * bytes ≤ 140737488355328)
    (h : ∀ v1 w1, w1.ownsRow base e size v1 (n + 1) (xs ++ ys) → Below base w0 w1 → W.grownBy w1 v.ownBlock → (v1.ownBlock = v.ownBlock ∨ ∃ b, v1.ownBlock = some b ∧ W.heap.size ≤ b) → K (a.put o.dst v1) w1) :
    if Region.wanted o (yielded ops a.tmps) = true then Oper.wp P o a (W.alloc (.cells ys.toArray e)) K Q else K (a.put o.dst undef) (W.alloc (.cells ys.toArray e)) := by
  obtain ⟨i0, hi, hzz⟩ := Option.map_eq_some_iff.1 hinfo
  simp only [Prod.mk.injEq] at hzz
  obtain ⟨hz0, hz1, hz2⟩ := hzz
  have hlen : n + 1 ≤ 140737488355328 := Nat.le_trans (Nat.le_mul_of_pos_right _ hb0) hl
  rw [if_pos hw]
  obtain ⟨v1, w1, hr, hown, hg, _, hat⟩ := run_append_own_at (P := P) (W.alloc (.cells ys.toArray e)) base t o.type e i0 z size bytes ht hi hz0 hz1 hz2 hz hs0 v n xs (HO.alloc _) ⟨W.heap.size, 0, none⟩ 1 1 ys (by rw [hys]; simp)
    (by simpa using World.news_of_block (cs := ys.toArray) (t := e) (fr := (0, 0)) (heap_alloc_new W (.cells ys.toArray e))) h1 (by simp only [maxLen]; omega) hl (by simp; omega)
  unfold Oper.wp execOp
  simp only [ho, resolve, invoke, builtin, Sem.run_bind, Sem.run_pure, Result.andThen_ok, List.map_toArray, List.map_cons, List.map_nil, hs, hx, hr]
  refine h v1 w1 hown ((HB.alloc hbase _).grown hg (by simp; omega) (own_base HO)) (World.grownBy.trans (World.grownBy_alloc W _ _) hg) ?_
  rcases hat with hat | hat
  · exact .inl hat
  · exact .inr ⟨_, hat, by simp⟩
end
namespace Kd
section
variable {P : Program} {ops : Array Oper} {o : Oper} {a : Act} {Q : Exit → Act → World → Prop} {Kc : Act → World → Prop} {α : Type}
theorem R_append_step (d : Kd α) {w0 W : World} (base : Nat) (hw : Region.wanted o (yielded ops a.tmps) = true) (s x : Operand) (t e : TypeId) (z : Value) (bytes : Nat)
    (ho : o.op = .call { callee := .builtin .append, args := #[s, x], argTypes := #[t, t] })
    (ht : P.underlying t = some (.slice e)) (hinfo : (P.info? e).map (fun i => (i.zero, i.size, i.bytes)) = some (some z, d.sz, bytes)) (hz : z.cells.size = d.sz) (hs0 : 0 < d.sz) (hb0 : 0 < bytes)
    (v : Value) (xs : List α) (p : α) (cs : List Value) (ok okp : Nat → Prop) (hs : a.eval s = v) (hx : a.eval x = .slice (some ⟨W.heap.size, 0, none⟩) 1 1) (hp : d.M W base okp p cs) (hokp : ∀ k, okp k → ok k ∧ some k ≠ v.ownBlock) (hfresh : ∀ k, W.heap.size ≤ k → ok k)
    (HO : d.R e W base ok v xs) (HB : Below base w0 W) (hbase : base ≤ W.heap.size) (hl : (xs.length + 1) * bytes ≤ 140737488355328)
    (h : ∀ v1 w1, d.R e w1 base ok v1 (xs ++ [p]) → Below base w0 w1 → W.grownBy w1 v.ownBlock → (v1.ownBlock = v.ownBlock ∨ ∃ b, v1.ownBlock = some b ∧ W.heap.size ≤ b) → Kc (a.put o.dst v1) w1) :
    if Region.wanted o (yielded ops a.tmps) = true then Oper.wp P o a (W.alloc (.cells cs.toArray e)) Kc Q else Kc (a.put o.dst undef) (W.alloc (.cells cs.toArray e)) := by
  obtain ⟨h0, inner, hown, hr⟩ := HO
  refine step_append_cells base hw s x t e z d.sz bytes ho ht hinfo hz hs0 hb0 v xs.length inner cs hs hx (d.K_len (d.K_of_M hp)) (d.K_one (d.K_of_M hp)) hown HB hbase hl ?_
  intro v1 w1 hown1 hb1 hg1 hat1
  exact h v1 w1 (R_appended h0 hr hp hokp hfresh hown1 hg1 hat1) hb1 hg1 hat1
end
end Kd
section
variable {P : Program} {ops : Array Oper} {o : Oper} {a : Act} {Q : Exit → Act → World → Prop} {Kc : Act → World → Prop}
theorem event_step {W w1 : World} {v : Value} (hw : Region.wanted o (yielded ops a.tmps) = true) (hrun : (execOp a.eval o).run P W = .ok (.value v) w1) (h : Kc (a.put o.dst v) w1) : if Region.wanted o (yielded ops a.tmps) = true then Oper.wp P o a W Kc Q else Kc (a.put o.dst undef) W := by
  rw [if_pos hw]
  unfold Oper.wp
  rw [hrun]
  exact h
namespace Kd
variable {α : Type}
theorem R_lit_step (d : Kd α) {w0 W : World} (base e : Nat) (hw : Region.wanted o (yielded ops a.tmps) = true) {N : Tmp} (_hd : o.dst = some N) {xs : List α} {inner : List Value} {ok okp : Nat → Prop}
    (hrun : (execOp a.eval o).run P W = .ok (.value (.slice (some ⟨W.heap.size, 0, none⟩) xs.length xs.length)) (W.alloc (.cells inner.toArray e)))
    (hrep : Reps (d.M W base okp) d.sz xs inner) (hok : ∀ k, okp k → ok k) (hfresh : ok W.heap.size) (HB : Below base w0 W) (hbase : base ≤ W.heap.size) (hm : xs.length ≤ 9223372036854775807)
    (h : ∀ v1 w1, d.R e w1 base ok v1 xs → Below base w0 w1 → W.grownBy w1 none → (∃ b, v1.ownBlock = some b ∧ W.heap.size ≤ b) → Kc (a.put o.dst v1) w1) : if Region.wanted o (yielded ops a.tmps) = true then Oper.wp P o a W Kc Q else Kc (a.put o.dst undef) W := by
  refine event_step hw hrun (h _ _ ⟨fun k hk => ?_, inner, ?_, ?_⟩ (HB.alloc hbase _) (World.grownBy_alloc W _ none) ⟨W.heap.size, by simp [Value.ownBlock], Nat.le_refl _⟩)
  · have : W.heap.size = k := by simpa [Value.ownBlock] using hk
    subst this
    exact hfresh
  · have h2 := World.ownsRow_lit (base := base) (e := e) (size := d.sz) W inner.toArray xs.length hbase (by simpa [maxLen] using hm) (by simpa using hrep.1)
    simpa using h2
  · refine hrep.imp_ (fun p c hp => d.M_mono (fun k hk => ⟨hok k hk.1, fun he => ?_⟩) (M_below (d.M_bound hp) (la1 (Below.refl _ _) _)))
    have h3 : k = W.heap.size := by simpa [Value.ownBlock] using he
    have := hk.2.2.1
    omega
end Kd
end
end Go.Proofs.YtopcleljecdkkaaDoorW.PrintWords
end
section
namespace Go.Proofs.YtopcleljecdkkaaDoorW.PrintLast
section
variable {P : Program} {ops : Array Oper} {Q : Exit → Act → World → Prop} {md : Region.Mode} {S : World → Prop} {ds : List Nat}
theorem AllReadyL.cons_last {fuel : Nat} {listed : Array Bool} {a : Act} {w : World} {i : Nat} {o : Oper} {rs : List Nat} (ho : ops[i]? = some o) (hd : i ∈ ds)
    (h : ∀ K' : Act → World → Prop, Shut (∀ a w, wpAnyLast P md ops Q S ds fuel (listed.setIfInBounds i true) a w → K' a w) → if Region.wanted o (yielded ops a.tmps) = true then Oper.wp P o a w K' Q else K' (a.put o.dst undef) w)
    (hs : AllReadyL P md ops Q S ds fuel listed a w rs) : AllReadyL P md ops Q S ds fuel listed a w (i :: rs) := fun j hj => by
  rcases List.mem_cons.1 hj with rfl | hj
  · exact wpOp_step ho (fun K' hK => h K' (fun a w hW => hK a w ⟨fun hn => absurd hd hn, hW⟩))
  · exact hs j hj
theorem last_ {i : Nat} {N : Option Tmp} {oi : Oper} {fuel : Nat} {l : Array Bool} {a : Act} {w : World} (l' : Array Bool) (hi : ops[i]? = some oi) (hN : oi.dst = N) (hc : readyB md ops l l' i = true) (hd : i ∈ ds)
    (h : ∀ K : Act → World → Prop, Shut (∀ a' w', wpAnyLast P md ops Q S ds fuel l' a' w' → K a' w') → if Region.wanted oi (yielded ops a.tmps) = true then Oper.wp P oi a w K Q else K (a.put N undef) w) :
    wpAnyLast P md ops Q S ds (fuel + 1) l a w := by
  subst hN
  simp only [readyB, Bool.and_eq_true, beq_iff_eq] at hc
  obtain ⟨h1, h2⟩ := hc
  subst h2
  exact wpAnyLast_ready h1 (by simp) (AllReadyL.cons_last hi hd (fun K hK => h K hK) AllReadyL.nil)
theorem value_ {oi : Oper} {N : Option Tmp} {a : Act} {w w1 : World} {v : Value} {K : Act → World → Prop} (hw : Region.wanted oi (yielded ops a.tmps) = true) (hN : oi.dst = N) (hrun : (execOp a.eval oi).run P w = .ok (.value v) w1)
    (h : K (a.put N v) w1) : if Region.wanted oi (yielded ops a.tmps) = true then Oper.wp P oi a w K Q else K (a.put N undef) w := by
  rw [if_pos hw]
  subst hN
  unfold Oper.wp
  rw [hrun]
  exact h
theorem skip_ {oi : Oper} {a : Act} {w w1 : World} {K : Act → World → Prop} (hw : Region.wanted oi (yielded ops a.tmps) = true) (hN : oi.dst = none) (hrun : (execOp a.eval oi).run P w = .ok .skip w1)
    (h : K a w1) : if Region.wanted oi (yielded ops a.tmps) = true then Oper.wp P oi a w K Q else K (a.put none undef) w := by
  rw [if_pos hw]
  unfold Oper.wp
  rw [hrun]
  show K (a.put oi.dst undef) w1
  rw [hN]
  exact h
end
end Go.Proofs.YtopcleljecdkkaaDoorW.PrintLast
end
section
namespace Go.Proofs.YtopcleljecdkkaaDoorW.PrintWords
open Go.RowKit
namespace Kd
section
variable {P : Program} {ops : Array Oper} {rest : List Oper} {o : Oper} {a : Act} {Q : Exit → Act → World → Prop} {Kc : Act → World → Prop} {α : Type}
theorem S_append_step (d : Kd α) {w0 W : World} (base : Nat) (hw : Region.wanted o (yielded ops a.tmps) = true) (s x : Operand) (t e : TypeId) (z : Value) (bytes : Nat)
    (ho : o.op = .call { callee := .builtin .append, args := #[s, x], argTypes := #[t, t] })
    (ht : P.underlying t = some (.slice e)) (hinfo : (P.info? e).map (fun i => (i.zero, i.size, i.bytes)) = some (some z, d.sz, bytes)) (hz : z.cells.size = d.sz) (hs0 : 0 < d.sz) (hb0 : 0 < bytes)
    (v : Value) (xs : List α) (p : α) (cs : List Value) (ok okp : Nat → Prop) (hs : a.eval s = v) (hx : a.eval x = .slice (some ⟨W.heap.size, 0, none⟩) 1 1) (hp : d.M W base okp p cs) (hokp : ∀ k, okp k → ok k ∧ some k ≠ v.ownBlock) (hfresh : ∀ k, W.heap.size ≤ k → ok k)
    (HO : S d e W base (fun k => ok k ∧ ¬ okp k) v xs) (HB : Below base w0 W) (hbase : base ≤ W.heap.size) (hl : (xs.length + 1) * bytes ≤ 140737488355328)
    (h : ∀ v1 w1, S d e w1 base ok v1 (xs ++ [p]) → Below base w0 w1 → W.grownBy w1 v.ownBlock → (v1.ownBlock = v.ownBlock ∨ ∃ b, v1.ownBlock = some b ∧ W.heap.size ≤ b) → Kc (a.put o.dst v1) w1) :
    if Region.wanted o (yielded ops a.tmps) = true then Oper.wp P o a (W.alloc (.cells cs.toArray e)) Kc Q else Kc (a.put o.dst undef) (W.alloc (.cells cs.toArray e)) := by
  obtain ⟨f, hf, hR⟩ := S_tag HO xs.length okp (fun _ hk h2 => h2.2 hk)
  refine R_append_step (tag f d) base hw s x t e z bytes ho ht hinfo hz hs0 hb0 v xs.zipIdx (p, xs.length) cs ok okp hs hx (d.M_mono (fun k hk => ⟨hk, hf k hk⟩) hp) hokp hfresh (R_mono hR (fun _ hk => hk.1)) HB hbase (by rw [List.length_zipIdx]; exact hl) ?_
  intro v1 w1 hr
  rw [← zip_snoc] at hr
  exact h v1 w1 ⟨f, hr⟩
end
end Kd
end Go.Proofs.YtopcleljecdkkaaDoorW.PrintWords
end
section
namespace Go.Proofs.YtopcleljecdkkaaDoor.G
open Go.RowKit Go.Proofs.YtopcleljecdkkaaDoorW.PrintWords Go.Proofs.YtopcleljecdkkaaDoorW.PrintLast Go.Proofs.YtopcleljecdkkaaDoorW.PrintMore
attribute [local go_sem] max2_int min2_int max_two min_two max_three min_three max_four min_four
set_option linter.unusedVariables false
set_option linter.unusedSimpArgs false
def clavierref19_nums.l0 : Nat → List Int → Int → Int → Int → List (List Int) → ByteArray → Int → ByteArray → Option (Int × Int × (List (List Int)) × ByteArray × Int × ByteArray)
  | 0, _, _, _, _, _, _, _, _ => none
  | k + 1, x2, x8, x220000, x220001, x220002, x220003, x220004, x220005 => if x8 < (x2.length : Int) then (if 0 ≤ x8 then (if x220002.length < 5864062014805 then (clavierref19_nums.l0 k x2 (wrap64 (x8 + 1)) x220000 x220001 (x220002 ++ [(([rd x2 x8] : List Int))]) x220003 x220004 x220005) else (none)) else (none)) else (some (x220000, x220001, x220002, x220003, x220004, x220005))
def clavierref19_nums.f (k : Nat) (a0 : Int) (a1 : Int) (l2 : List Int) : Option (Int × Int × (List (List Int)) × ByteArray × Int × ByteArray) := clavierref19_nums.l0 k l2 0 1 a0 ([] : List (List Int)) (⟨#[]⟩ : ByteArray) a1 (⟨#[]⟩ : ByteArray)
theorem clavierref19_nums.mono_l : ∀ k, (∀ y0 y1 y2 y3 y4 y5 y6 y7, LeO (clavierref19_nums.l0 k y0 y1 y2 y3 y4 y5 y6 y7) (clavierref19_nums.l0 (k + 1) y0 y1 y2 y3 y4 y5 y6 y7))
  | 0 => fun _ _ _ _ _ _ _ _ r h => by simp [clavierref19_nums.l0] at h
  | k + 1 => by
    have ih0 := clavierref19_nums.mono_l k
    · intro y0 y1 y2 y3 y4 y5 y6 y7
      unfold clavierref19_nums.l0
      repeat' first
      | (with_reducible exact ih0 _ _ _ _ _ _ _ _)
      | (with_reducible exact LeO.refl _)
      | (with_reducible exact LeO.none _)
      | (with_reducible refine LeO.ite ?_ ?_)
      | (with_reducible refine LeO.bind ?_ (fun _ => ?_))
      | exact ih0 _ _ _ _ _ _ _ _
      | exact LeO.none _
      | refine LeO.ite ?_ ?_
      | refine LeO.bind ?_ (fun _ => ?_)
theorem clavierref19_nums.mono : ∀ a0 a1 a2 k, LeO (clavierref19_nums.f k a0 a1 a2) (clavierref19_nums.f (k + 1) a0 a1 a2) := by
  intro a0 a1 a2 k
  have ih0 := clavierref19_nums.mono_l k
  unfold clavierref19_nums.f
  repeat' first
      | (with_reducible exact ih0 _ _ _ _ _ _ _ _)
      | (with_reducible exact LeO.refl _)
      | (with_reducible exact LeO.none _)
      | (with_reducible refine LeO.ite ?_ ?_)
      | (with_reducible refine LeO.bind ?_ (fun _ => ?_))
      | exact ih0 _ _ _ _ _ _ _ _
      | exact LeO.none _
      | refine LeO.ite ?_ ?_
      | refine LeO.bind ?_ (fun _ => ?_)
def clavierref19_nums.T5 : Bool × List (List Nat × List Nat) := (true, [([], []), ([0], [0]), ([], []), ([], []), ([2, 3], [2, 3]), ([4], [4]), ([5], [5]), ([6], [6]), ([1, 7], [1, 7]), ([0, 1, 2, 3, 4, 5, 6, 7, 8], []), ([9, 8, 8, 0, 1, 2, 3, 4, 5, 6, 7, 8], [8, 9])])
def clavierref19_nums.B5 : List Nat := [0, 1, 0, 0, 12, 28, 60, 124, 255, 511, 1023]
theorem clavierref19_nums.tab5 : rtab .any (opsOf Tryd.f31 5) = clavierref19_nums.T5 := by kernel_rfl
theorem clavierref19_nums.bits5 : waitsOk clavierref19_nums.T5.2 clavierref19_nums.B5 = true := by kernel_rfl
set_option maxHeartbeats 8000000 in
set_option maxRecDepth 100000 in
theorem clavierref19_nums.calls (k : Nat) (a0 : Int) (a1 : Int) (A2 : Option Addr) (c2 : Nat) (l2 : List Int) (r1 : Int) (r2 : Int) (r3 : List (List Int)) (r4 : ByteArray) (r5 : Int) (r6 : ByteArray) (w : World) (hr2 : Kd.C (Kd.int .i64) w A2 l2.length l2) (hc2 : l2.length ≤ c2) (h : clavierref19_nums.f k a0 a1 l2 = some (r1, r2, r3, r4, r5, r6)) :
    Calls Tryd.prog 31 #[.int .u8 a0, .int .u8 a1, .slice A2 l2.length c2] w fun e w' => ∃ v2_ : Value, e = .returned (.agg #[.int .i64 r1, .int .u8 r2, v2_, .string r4, .int .u8 r5, .string r6]) ∧ Kd.S (Kd.slice 3 (Kd.int .i64)) 52 w' w.heap.size (fun _ => True) v2_ r3 ∧ Below w.heap.size w w' := by
  have hu30 := Tryd.underlying30
  have HR2 := Aside0.mk hr2
  have HC2 := Aside0.mk hc2
  clear hr2 hc2
  have HB := Aside0.mk (Below.refl w.heap.size w)
  have H : (clavierref19_nums.l0 k l2 0 1 a0 ([] : List (List Int)) (⟨#[]⟩ : ByteArray) a1 (⟨#[]⟩ : ByteArray)) = some (r1, r2, r3, r4, r5, r6) := h
  clear h
  have H' := Aside0.mk H
  clear H
  go_enter Tryd.func31, Tryd.ntmps31
  go_wp2_with (first | ((with_reducible refine gate_dst (N := 6) rfl ?_); refine box_event ?hg (N := 6) ?hd (cs := #[.int .i64 0, .int .u8 0, .slice none 0 0, .string (⟨#[]⟩ : ByteArray), .int .u8 0, .string (⟨#[]⟩ : ByteArray)]) (t := 30) ?hr ?_; (case hd => rfl); (case hg => rfl); (case hr => first | (go_simp; done) | (go_simp; rfl)); intro gb218 hg w4 hbox hb; have n0_ := Aside0.mk (below_step (by repeat (first | (with_reducible first | exact HB.out | apply la1 | apply ln1 | apply ld1) | exact HB.out)) hb); have n1_ := Aside0.mk (hbox); have n2_ := Aside0.mk ((by rw [hg]; exact (below_size (by repeat (first | (with_reducible first | exact HB.out | apply la1 | apply ln1 | apply ld1) | exact HB.out))) : w.heap.size ≤ gb218)); have n3_ := Aside0.mk ((by rw [hg]; exact (below_size (by repeat (first | (with_reducible first | exact HB.out | apply la1 | apply ln1 | apply ld1) | exact HB.out))) : w.heap.size ≤ gb218)); clear HB; have HB := n0_; have BK218 := n1_; have GW218 := n2_; have GE218 := n3_; clear n0_ n1_ n2_ n3_; clear hb hbox hg) | ((with_reducible refine gate_dst (N := 7) rfl ?_); refine box_event ?hg (N := 7) ?hd (cs := #[.int .i64 0, .int .u8 0, .slice none 0 0, .string (⟨#[]⟩ : ByteArray), .int .u8 0, .string (⟨#[]⟩ : ByteArray)]) (t := 30) ?hr ?_; (case hd => rfl); (case hg => rfl); (case hr => first | (go_simp; done) | (go_simp; rfl)); intro gb219 hg w5 hbox hb; have n0_ := Aside0.mk (bb1 (g := gb218) (o := .cells #[.int .i64 0, .int .u8 0, .slice none 0 0, .string (⟨#[]⟩ : ByteArray), .int .u8 0, .string (⟨#[]⟩ : ByteArray)] 30 (0, 0)) (by (with_reducible repeat (first | refine bn1 ?_ _ | refine bd1 ?_ | refine ba1 ?_ _)); exact BK218.out) hb); have n1_ := Aside0.mk (below_step (by repeat (first | (with_reducible first | exact HB.out | apply la1 | apply ln1 | apply ld1 | refine ls1 ?_ GE218.out) | exact HB.out)) hb); have n2_ := Aside0.mk (hbox); have n3_ := Aside0.mk ((by rw [hg]; exact (below_size (by repeat (first | (with_reducible first | exact HB.out | apply la1 | apply ln1 | apply ld1 | refine ls1 ?_ GE218.out) | exact HB.out))) : w.heap.size ≤ gb219)); have n4_ := Aside0.mk ((by rw [hg]; exact (below_size (by repeat (first | (with_reducible first | exact HB.out | apply la1 | apply ln1 | apply ld1 | refine ls1 ?_ GE218.out) | exact HB.out))) : w.heap.size ≤ gb219)); have n5_ := Aside0.mk ((by rw [hg]; exact Nat.ne_of_lt (blk_lt (g := gb218) (o := .cells #[.int .i64 0, .int .u8 0, .slice none 0 0, .string (⟨#[]⟩ : ByteArray), .int .u8 0, .string (⟨#[]⟩ : ByteArray)] 30 (0, 0)) (by (with_reducible repeat (first | refine bn1 ?_ _ | refine bd1 ?_ | refine ba1 ?_ _)); exact BK218.out)) : gb218 ≠ gb219)); have n6_ := Aside0.mk ((by rw [hg]; exact Nat.ne_of_gt (blk_lt (g := gb218) (o := .cells #[.int .i64 0, .int .u8 0, .slice none 0 0, .string (⟨#[]⟩ : ByteArray), .int .u8 0, .string (⟨#[]⟩ : ByteArray)] 30 (0, 0)) (by (with_reducible repeat (first | refine bn1 ?_ _ | refine bd1 ?_ | refine ba1 ?_ _)); exact BK218.out)) : gb219 ≠ gb218)); clear BK218; clear HB; have BK218 := n0_; have HB := n1_; have BK219 := n2_; have GW219 := n3_; have GE219 := n4_; have NB218_219 := n5_; have NB219_218 := n6_; clear n0_ n1_ n2_ n3_ n4_ n5_ n6_; clear hb hbox hg; have hnb6 := NB219_218.out; have hnc6 := NB218_219.out; have hcz7_0 : w5.cell? ⟨gb219, 0, none⟩ = some (.int .i64 0) := (bc1 BK219.out 0).trans rfl; have hcz7_1 : w5.cell? ⟨gb219, 1, none⟩ = some (.int .u8 0) := (bc1 BK219.out 1).trans rfl; have hcz7_2 : w5.cell? ⟨gb219, 2, none⟩ = some (.slice none 0 0) := (bc1 BK219.out 2).trans rfl; have hcz7_3 : w5.cell? ⟨gb219, 3, none⟩ = some (.string (⟨#[]⟩ : ByteArray)) := (bc1 BK219.out 3).trans rfl; have hcz7_4 : w5.cell? ⟨gb219, 4, none⟩ = some (.int .u8 0) := (bc1 BK219.out 4).trans rfl; have hcz7_5 : w5.cell? ⟨gb219, 5, none⟩ = some (.string (⟨#[]⟩ : ByteArray)) := (bc1 BK219.out 5).trans rfl; have hfz7_0 := bz1 BK219.out 0; have hfz7_1 := bz1 BK219.out 1; have hfz7_2 := bz1 BK219.out 2; have hfz7_3 := bz1 BK219.out 3; have hfz7_4 := bz1 BK219.out 4; have hfz7_5 := bz1 BK219.out 5))
  go_loopg [8] k (fun kq v8 w' => ∃ (x8_1 : Int) (x220002_1 : List (List Int)) (u220002 : Value), v8 = .int .i64 x8_1 ∧ Aside0 (clavierref19_nums.l0 kq l2 x8_1 1 a0 x220002_1 (⟨#[]⟩ : ByteArray) a1 (⟨#[]⟩ : ByteArray) = some (r1, r2, r3, r4, r5, r6)) ∧ Aside0 (kq ≤ k) ∧ Aside0 (Kd.S (Kd.slice 3 (Kd.int .i64)) 52 w' w.heap.size (fun _ => True) u220002 x220002_1) ∧ Aside0 (w'.heap[gb218]? = some (.cells #[.int .i64 0, .int .u8 0, (.slice none 0 0), .string (⟨#[]⟩ : ByteArray), .int .u8 0, .string (⟨#[]⟩ : ByteArray)] 30 (0, 0))) ∧ Aside0 (w'.heap[gb219]? = some (.cells #[.int .i64 1, .int .u8 a0, u220002, .string (⟨#[]⟩ : ByteArray), .int .u8 a1, .string (⟨#[]⟩ : ByteArray)] 30 (0, 0))) ∧ Aside0 (Below w.heap.size w w'))
  case atStart => exact ⟨(0), (([] : List (List Int))), (.slice none 0 0), (by first | rfl | (simp; done) | (simp [*]; done)), H', ⟨Nat.le_refl _⟩, ⟨by first | exact Kd.S_nil _ _ _ _ _ | exact Kd.N_nil _ _ _ _ _ | exact Kd.V_nil _ _ _ _ _ | exact Kd.Q_nil _ _ _ _ _ | exact Kd.R_nil _ _ _ _ _⟩, ⟨by (with_reducible repeat (first | refine bn1 ?_ _ | refine bd1 ?_ | refine ba1 ?_ _)); refine bf1 ?_ NB218_219.out _; (with_reducible repeat (first | refine bn1 ?_ _ | refine bd1 ?_ | refine ba1 ?_ _)); refine bf1 ?_ NB218_219.out _; (with_reducible repeat (first | refine bn1 ?_ _ | refine bd1 ?_ | refine ba1 ?_ _)); refine bf1 ?_ NB218_219.out _; (with_reducible repeat (first | refine bn1 ?_ _ | refine bd1 ?_ | refine ba1 ?_ _)); refine bf1 ?_ NB218_219.out _; (with_reducible repeat (first | refine bn1 ?_ _ | refine bd1 ?_ | refine ba1 ?_ _)); refine bf1 ?_ NB218_219.out _; (with_reducible repeat (first | refine bn1 ?_ _ | refine bd1 ?_ | refine ba1 ?_ _)); refine bf1 ?_ NB218_219.out _; (with_reducible repeat (first | refine bn1 ?_ _ | refine bd1 ?_ | refine ba1 ?_ _)); exact BK218.out⟩, ⟨by (with_reducible repeat (first | refine bn1 ?_ _ | refine bd1 ?_ | refine ba1 ?_ _)); refine bp1 (cs := #[.int .i64 1, .int .u8 a0, .slice none 0 0, .string (⟨#[]⟩ : ByteArray), .int .u8 a1, .string (⟨#[]⟩ : ByteArray)]) ?_ 5 _ rfl; (with_reducible repeat (first | refine bn1 ?_ _ | refine bd1 ?_ | refine ba1 ?_ _)); refine bp1 (cs := #[.int .i64 1, .int .u8 a0, .slice none 0 0, .string (⟨#[]⟩ : ByteArray), .int .u8 0, .string (⟨#[]⟩ : ByteArray)]) ?_ 4 _ rfl; (with_reducible repeat (first | refine bn1 ?_ _ | refine bd1 ?_ | refine ba1 ?_ _)); refine bp1 (cs := #[.int .i64 1, .int .u8 a0, .slice none 0 0, .string (⟨#[]⟩ : ByteArray), .int .u8 0, .string (⟨#[]⟩ : ByteArray)]) ?_ 3 _ rfl; (with_reducible repeat (first | refine bn1 ?_ _ | refine bd1 ?_ | refine ba1 ?_ _)); refine bp1 (cs := #[.int .i64 1, .int .u8 a0, .slice none 0 0, .string (⟨#[]⟩ : ByteArray), .int .u8 0, .string (⟨#[]⟩ : ByteArray)]) ?_ 2 _ rfl; (with_reducible repeat (first | refine bn1 ?_ _ | refine bd1 ?_ | refine ba1 ?_ _)); refine bp1 (cs := #[.int .i64 1, .int .u8 0, .slice none 0 0, .string (⟨#[]⟩ : ByteArray), .int .u8 0, .string (⟨#[]⟩ : ByteArray)]) ?_ 1 _ rfl; (with_reducible repeat (first | refine bn1 ?_ _ | refine bd1 ?_ | refine ba1 ?_ _)); refine bp1 (cs := #[.int .i64 0, .int .u8 0, .slice none 0 0, .string (⟨#[]⟩ : ByteArray), .int .u8 0, .string (⟨#[]⟩ : ByteArray)]) ?_ 0 _ rfl; (with_reducible repeat (first | refine bn1 ?_ _ | refine bd1 ?_ | refine ba1 ?_ _)); exact BK219.out⟩, ⟨by repeat (first | (with_reducible first | exact HB.out | apply la1 | apply ln1 | apply ld1 | refine ls1 ?_ GE218.out | refine ls1 ?_ GE219.out) | exact HB.out)⟩⟩
  case round =>
    clear H'
    try clear c2
    try clear p2
    try clear c3
    try clear c6
    try clear hcz7_0
    try clear hcz7_1
    try clear hcz7_2
    try clear hcz7_3
    try clear hcz7_4
    try clear hcz7_5
    try clear hfz7_0
    try clear hfz7_1
    try clear hfz7_2
    try clear hfz7_3
    try clear hfz7_4
    try clear hfz7_5
    obtain ⟨x8_1, x220002_1, u220002, rfl, HA, HK1, HO_220002, BK218, BK219, HB⟩ := hrel
    cases gk with
    | zero => exact absurd HA.out (by simp [clavierref19_nums.l0])
    | succ k1 =>
      have H := HA.out
      clear HA
      simp only [clavierref19_nums.l0] at H
      by_cases c8 : x8_1 < (l2.length : Int)
      · rw [if_pos c8] at H
        have c8b0 : decide (x8_1 < (l2.length : Int)) = true := decide_eq_true c8
        clear c8
        by_cases c9 : 0 ≤ x8_1
        · rw [if_pos c9] at H
          have c9b0 : decide (0 ≤ x8_1) = true := decide_eq_true c9
          clear c9
          obtain ⟨y221, hy221⟩ : ∃ y_ : List Int, y_ = (([rd l2 x8_1] : List Int)) := ⟨_, rfl⟩
          replace H : (if x220002_1.length < 5864062014805 then (clavierref19_nums.l0 k1 l2 (wrap64 (x8_1 + 1)) 1 a0 (x220002_1 ++ [y221]) (⟨#[]⟩ : ByteArray) a1 (⟨#[]⟩ : ByteArray)) else (none)) = some (r1, r2, r3, r4, r5, r6) := by first | (rw [hy221]; with_reducible exact H) | (have H2_ := (Option.bind_some _ _).symm.trans H; rw [hy221]; with_reducible exact H2_) | (have H2_ := (Option.bind_some _ _).symm.trans H; with_reducible exact H2_) | with_reducible exact H | (rw [hy221]; exact H) | exact H
          have Ny221 := Aside0.mk hy221
          clear hy221
          by_cases c10 : x220002_1.length < 5864062014805
          · rw [if_pos c10] at H
            have LMc10 := Aside0.mk c10
            clear c10
            obtain ⟨y224, hy224⟩ : ∃ y_ : List (List Int), y_ = (x220002_1 ++ [y221]) := ⟨_, rfl⟩
            replace H : (clavierref19_nums.l0 k1 l2 (wrap64 (x8_1 + 1)) 1 a0 y224 (⟨#[]⟩ : ByteArray) a1 (⟨#[]⟩ : ByteArray)) = some (r1, r2, r3, r4, r5, r6) := by first | (rw [hy224]; with_reducible exact H) | (have H2_ := (Option.bind_some _ _).symm.trans H; rw [hy224]; with_reducible exact H2_) | (have H2_ := (Option.bind_some _ _).symm.trans H; with_reducible exact H2_) | with_reducible exact H | (rw [hy224]; exact H) | exact H
            have Ny224 := Aside0.mk hy224
            clear hy224
            have H' := Aside0.mk H
            clear H
            try go_wp2
            have n0_ := Aside0.mk (Kd.S_drew HO_220002.out)
            have n1_ := Aside0.mk (bd1 BK218.out)
            have n2_ := Aside0.mk (bd1 BK219.out)
            have n3_ := Aside0.mk (ld1 HB.out)
            clear HO_220002
            clear BK218
            clear BK219
            clear HB
            have HO_220002 := n0_
            have BK218 := n1_
            have BK219 := n2_
            have HB := n3_
            clear n0_ n1_ n2_ n3_
            have p220 : 0 ≤ (x8_1 : Int) := of_decide_eq_true (by first | (with_reducible assumption) | assumption)
            have q220 : x8_1 < (l2.length : Int) := of_decide_eq_true (by first | (with_reducible assumption) | assumption)
            obtain ⟨ad220, e220, hx220_0⟩ := Kd.at_int HR2.out x8_1 p220 q220
            have hw220_0 := hx220_0
            cases e220
            replace hx220_0 := (HB.out.cell (World.block_lt_of_cell? w _ hx220_0)).trans hx220_0
            replace p220 := eq_true p220
            replace q220 := eq_true q220
            refine start_ (n := 11) (S := fun w' => w'.cell? ⟨gb219, 0, none⟩ = some (.int .i64 1) ∧ w'.cell? ⟨gb219, 1, none⟩ = some (.int .u8 a0) ∧ w'.cell? ⟨gb219, 2, none⟩ = some (u220002) ∧ w'.cell? ⟨gb219, 3, none⟩ = some (.string (⟨#[]⟩ : ByteArray)) ∧ w'.cell? ⟨gb219, 4, none⟩ = some (.int .u8 a1) ∧ w'.cell? ⟨gb219, 5, none⟩ = some (.string (⟨#[]⟩ : ByteArray)) ∧ w'.cell? (ad220.add (x8_1).toNat) = some (.int .i64 (rd l2 x8_1))) (ds := [10]) #[false, false, false, false, false, false, false, false, false, false, false] (by kernel_rfl) rfl rfl ⟨(bc1 BK219.out 0).trans rfl, (bc1 BK219.out 1).trans rfl, (bc1 BK219.out 2).trans rfl, (bc1 BK219.out 3).trans rfl, (bc1 BK219.out 4).trans rfl, (bc1 BK219.out 5).trans rfl, ((HB.out.cell (World.block_lt_of_cell? w _ hw220_0)).trans hw220_0)⟩ (fun hHeld => ?_); refine with_tabW clavierref19_nums.tab5 clavierref19_nums.bits5 (fun HT_ HW_ => ?_)
            generalize wr.drew = w11 at HO_220002 BK218 BK219 HB hx220_0 hHeld ⊢
            refine pure_ (i := 0) (N := some 18) (v := ?_) (a' := ?_) #[true, false, false, false, false, false, false, false, false, false, false] rfl rfl (any_of HT_.out (by kernel_rfl)) (fun _ _ _ h => h) (Or.inl ⟨by rfl, ?_⟩) ?_ ?_
            rotate_left
            · intro w'
              go_simp
              with_reducible rfl
            rotate_left
            · simp only [Act.put, List.setIfInBounds_toArray, List.set_cons_zero, List.set_cons_succ, i64_w, i32_w]
              rfl
            refine pure_ (i := 2) (N := some 20) (v := ?_) (a' := ?_) #[true, false, true, false, false, false, false, false, false, false, false] rfl rfl (any_of HT_.out (by kernel_rfl)) (fun _ _ _ h => h) (Or.inl ⟨by rfl, ?_⟩) ?_ ?_
            rotate_left
            · intro w'
              go_simp
              with_reducible rfl
            rotate_left
            · simp only [Act.put, List.setIfInBounds_toArray, List.set_cons_zero, List.set_cons_succ, i64_w, i32_w]
              rfl
            refine pure_ (i := 3) (N := some 21) (v := ?_) (a' := ?_) #[true, false, true, true, false, false, false, false, false, false, false] rfl rfl (any_of HT_.out (by kernel_rfl)) (fun _ _ _ h => h) (Or.inl ⟨by rfl, ?_⟩) ?_ ?_
            rotate_left
            · intro w'
              go_simp
              with_reducible rfl
            rotate_left
            · simp only [Act.put, List.setIfInBounds_toArray, List.set_cons_zero, List.set_cons_succ, i64_w, i32_w]
              rfl
            refine pure_ (i := 4) (N := some 22) (v := ?_) (a' := ?_) #[true, false, true, true, true, false, false, false, false, false, false] rfl rfl (any_of HT_.out (by kernel_rfl)) (fun _ _ _ h => h) (Or.inl ⟨by rfl, ?_⟩) ?_ ?_
            rotate_left
            · intro w'
              go_simp
              with_reducible rfl
            rotate_left
            · simp only [Act.put, List.setIfInBounds_toArray, List.set_cons_zero, List.set_cons_succ, i64_w, i32_w]
              rfl
            refine take_ (i := 1) (N := some 19) (v := ?_) (a' := ?_) #[true, true, true, true, true, false, false, false, false, false, false] rfl rfl (take_ofW HT_.out HW_.out (by kernel_rfl)) (fun _ _ _ h => h) (Or.inl ⟨by rfl, ?_⟩) hHeld ?_ ?_
            rotate_left
            · rintro w' ⟨s0, s1, s2, s3, s4, s5, s6⟩
              go_simp
              with_reducible rfl
            rotate_left
            · simp only [Act.put, List.setIfInBounds_toArray, List.set_cons_zero, List.set_cons_succ, i64_w, i32_w]
              rfl
            refine take_ (i := 5) (N := some 23) (v := ?_) (a' := ?_) #[true, true, true, true, true, true, false, false, false, false, false] rfl rfl (take_ofW HT_.out HW_.out (by kernel_rfl)) (fun _ _ _ h => h) (Or.inl ⟨by rfl, ?_⟩) hHeld ?_ ?_
            rotate_left
            · rintro w' ⟨s0, s1, s2, s3, s4, s5, s6⟩
              go_simp
              with_reducible rfl
            rotate_left
            · simp only [Act.put, List.setIfInBounds_toArray, List.set_cons_zero, List.set_cons_succ, i64_w, i32_w]
              rfl
            refine one_ (i := 6) (N := some 24) #[true, true, true, true, true, true, true, false, false, false, false] rfl rfl (one_of HT_.out (by kernel_rfl)) (by decide) (fun K hK => ?_)
            refine Kd.R_lit_step (Kd.int .i64) _ 3 ?hg (N := 24) ?hd (xs := ([rd l2 x8_1] : List Int)) (inner := [.int .i64 (rd l2 x8_1)]) (ok := fun _ => True) (okp := fun _ => True) ?hr ?hp (fun _ hk => hk) trivial (Below.refl _ _) (Nat.le_refl _) (by simp) ?_; (case hd => rfl); (case hg => rfl); (case hr => first | (go_simp; done) | (go_simp; rfl)); (case hp => exact (Reps.one (show Kd.M (Kd.int .i64) _ _ _ (rd l2 x8_1) [.int .i64 (rd l2 x8_1)] from rfl) (Reps.none _ _)))
            intro v222 w12 ho13 hb hg_ hnew_
            clear hg_ hnew_
            (first | rw [← Ny221.out] at ho13 | (simp only [Int.reduceToNat] at ho13; rw [← Ny221.out] at ho13))
            have n0_ := Aside0.mk (Kd.S_elder' (by (with_reducible repeat (first | apply Kd.S_alloc | apply Kd.S_drewN | apply Kd.S_drew)); exact HO_220002.out) (Kd.R_base ho13) hb)
            have n1_ := Aside0.mk (Kd.R_lower ho13 (below_size (by repeat (first | (with_reducible first | exact HB.out | apply la1 | apply ln1 | apply ld1 | refine ls1 ?_ GE218.out | refine ls1 ?_ GE219.out) | exact HB.out))))
            have n2_ := Aside0.mk (bb1 (g := gb218) (o := .cells #[.int .i64 0, .int .u8 0, .slice none 0 0, .string (⟨#[]⟩ : ByteArray), .int .u8 0, .string (⟨#[]⟩ : ByteArray)] 30 (0, 0)) (by (with_reducible repeat (first | refine bn1 ?_ _ | refine bd1 ?_ | refine ba1 ?_ _)); exact BK218.out) hb)
            have n3_ := Aside0.mk (bb1 (g := gb219) (o := .cells #[.int .i64 1, .int .u8 a0, u220002, .string (⟨#[]⟩ : ByteArray), .int .u8 a1, .string (⟨#[]⟩ : ByteArray)] 30 (0, 0)) (by (with_reducible repeat (first | refine bn1 ?_ _ | refine bd1 ?_ | refine ba1 ?_ _)); exact BK219.out) hb)
            have n4_ := Aside0.mk (below_step (by repeat (first | (with_reducible first | exact HB.out | apply la1 | apply ln1 | apply ld1 | refine ls1 ?_ GE218.out | refine ls1 ?_ GE219.out) | exact HB.out)) hb)
            clear HO_220002
            clear BK218
            clear BK219
            clear HB
            have HO_220002 := n0_
            have HO223 := n1_
            have BK218 := n2_
            have BK219 := n3_
            have HB := n4_
            clear n0_ n1_ n2_ n3_ n4_
            clear hb ho13
            obtain ⟨Ao15, co15, eo15⟩ := Kd.R_slice HO223.out
            (first | subst eo15 | (injection eo15 with f1_ f2_ f3_; have f4_ := f1_.symm; have f5_ := f3_.symm; clear f1_ f2_ f3_; subst f4_; subst f5_))
            refine hK.out _ _ ⟨(bc1 BK219.out 0).trans rfl, (bc1 BK219.out 1).trans rfl, (bc1 BK219.out 2).trans rfl, (bc1 BK219.out 3).trans rfl, (bc1 BK219.out 4).trans rfl, (bc1 BK219.out 5).trans rfl, ((HB.out.cell (World.block_lt_of_cell? w _ hw220_0)).trans hw220_0)⟩ (fun hHeld => ?_)
            clear hK K
            refine norm_ (a' := ?_) ?_ ?_
            rotate_left
            · show Act.put _ (some 24) _ = _
              simp only [Act.put, List.setIfInBounds_toArray, List.set_cons_zero, List.set_cons_succ, i64_w, i32_w]
              rfl
            refine one_ (i := 7) (N := some 25) #[true, true, true, true, true, true, true, true, false, false, false] rfl rfl (one_of HT_.out (by kernel_rfl)) (by decide) (fun K hK => ?_)
            refine value_ (w1 := ?_) (v := ?_) (by rfl) rfl ?_ ?_
            rotate_left 2
            · go_simp
              constructor
              · rfl
              · rfl
            refine hK.out _ _ ⟨(bc1 (ba1 BK219.out _) 0).trans rfl, (bc1 (ba1 BK219.out _) 1).trans rfl, (bc1 (ba1 BK219.out _) 2).trans rfl, (bc1 (ba1 BK219.out _) 3).trans rfl, (bc1 (ba1 BK219.out _) 4).trans rfl, (bc1 (ba1 BK219.out _) 5).trans rfl, (World.cell?_alloc_lt _ _ _ (World.block_lt_of_cell? _ _ (((HB.out.cell (World.block_lt_of_cell? w _ hw220_0)).trans hw220_0)))).trans (((HB.out.cell (World.block_lt_of_cell? w _ hw220_0)).trans hw220_0))⟩ (fun hHeld => ?_)
            clear hK K
            refine norm_ (a' := ?_) ?_ ?_
            rotate_left
            · show Act.put _ (some 25) _ = _
              simp only [Act.put, List.setIfInBounds_toArray, List.set_cons_zero, List.set_cons_succ, i64_w, i32_w]
              rfl
            refine one_ (i := 8) (N := some 26) #[true, true, true, true, true, true, true, true, true, false, false] rfl rfl (one_of HT_.out (by kernel_rfl)) (by decide) (fun K hK => ?_)
            refine Kd.S_append_step (Kd.slice 3 (Kd.int .i64)) (w0 := w) w.heap.size (by rfl) (.tmp 19) (.tmp 25) 28 52 (.slice none 0 0) 24 rfl Tryd.underlying28 info52 rfl (by decide) (by omega) u220002 x220002_1 y221 [.slice Ao15 y221.length co15] (fun _ => True) (fun k_ => some k_ = (.slice Ao15 y221.length co15 : Value).ownBlock) rfl rfl ?aP (fun k_ hk_ => ((Kd.R_mono (ok' := fun k_ => ((fun _ => True)) k_ ∧ some k_ ≠ (u220002 : Value).ownBlock) (Kd.R_apart' (HO223.out) (Kd.S_typed HO_220002.out) (by decide)) (fun k_ hk => ⟨trivial, hk.2⟩))).1 k_ hk_.symm) ?aF ?aO ?aB ?aS ?aL ?_
            (case aP => exact Kd.M_row (Kd.R_mono (Kd.R_tight rfl (Kd.R_mono (ok' := fun k_ => ((fun _ => True)) k_ ∧ some k_ ≠ (u220002 : Value).ownBlock) (Kd.R_apart' (HO223.out) (Kd.S_typed HO_220002.out) (by decide)) (fun k_ hk => ⟨trivial, hk.2⟩))) (fun _ h_ => h_)))
            (case aB => exact (by repeat (first | (with_reducible first | exact HB.out | apply la1 | apply ln1 | apply ld1 | refine ls1 ?_ GE218.out | refine ls1 ?_ GE219.out) | exact HB.out)))
            (case aF => exact (fun _ _ => trivial))
            (case aO => exact (by (with_reducible repeat (first | apply Kd.S_alloc | apply Kd.S_drewN | apply Kd.S_drew)); exact Kd.S_mono HO_220002.out (fun k_ hk => ⟨trivial, fun e_ => hk.2 e_⟩)))
            (case aS => exact (below_size (by repeat (first | (with_reducible first | exact HB.out | apply la1 | apply ln1 | apply ld1 | refine ls1 ?_ GE218.out | refine ls1 ?_ GE219.out) | exact HB.out))))
            (case aL => have := LMc10.out; omega)
            intro v225 w14 ho hb hg hat
            rw [← Ny224.out] at ho
            have n0_ := Aside0.mk (blk_grown (g := gb218) (o := .cells #[.int .i64 0, .int .u8 0, .slice none 0 0, .string (⟨#[]⟩ : ByteArray), .int .u8 0, .string (⟨#[]⟩ : ByteArray)] 30 (0, 0)) (by (with_reducible repeat (first | refine bn1 ?_ _ | refine bd1 ?_ | refine ba1 ?_ _)); exact BK218.out) hg (Kd.S_ne HO_220002.out BK218.out (by decide)))
            have n1_ := Aside0.mk (blk_grown (g := gb219) (o := .cells #[.int .i64 1, .int .u8 a0, u220002, .string (⟨#[]⟩ : ByteArray), .int .u8 a1, .string (⟨#[]⟩ : ByteArray)] 30 (0, 0)) (by (with_reducible repeat (first | refine bn1 ?_ _ | refine bd1 ?_ | refine ba1 ?_ _)); exact BK219.out) hg (Kd.S_ne HO_220002.out BK219.out (by decide)))
            have n2_ := Aside0.mk (hb)
            have n3_ := Aside0.mk (ho)
            clear BK218
            clear BK219
            clear HB
            clear HO_220002
            clear HO223
            have BK218 := n0_
            have BK219 := n1_
            have HB := n2_
            have HO226 := n3_
            clear n0_ n1_ n2_ n3_
            clear ho hb hg hat
            obtain ⟨Ao16, co16, eo16⟩ := Kd.S_slice HO226.out
            (first | subst eo16 | (injection eo16 with f1_ f2_ f3_; have f4_ := f1_.symm; have f5_ := f3_.symm; clear f1_ f2_ f3_; subst f4_; subst f5_))
            refine hK.out _ _ ⟨(bc1 BK219.out 0).trans rfl, (bc1 BK219.out 1).trans rfl, (bc1 BK219.out 2).trans rfl, (bc1 BK219.out 3).trans rfl, (bc1 BK219.out 4).trans rfl, (bc1 BK219.out 5).trans rfl, ((HB.out.cell (World.block_lt_of_cell? w _ hw220_0)).trans hw220_0)⟩ (fun hHeld => ?_)
            clear hK K
            refine norm_ (a' := ?_) ?_ ?_
            rotate_left
            · show Act.put _ (some 26) _ = _
              simp only [Act.put, List.setIfInBounds_toArray, List.set_cons_zero, List.set_cons_succ, i64_w, i32_w]
              rfl
            refine pure_ (i := 9) (N := some 27) (v := ?_) (a' := ?_) #[true, true, true, true, true, true, true, true, true, true, false] rfl rfl (any_of HT_.out (by kernel_rfl)) (fun _ _ _ h => h) (Or.inl ⟨by rfl, ?_⟩) ?_ ?_
            rotate_left
            · intro w'
              go_simp
              with_reducible rfl
            rotate_left
            · simp only [Act.put, List.setIfInBounds_toArray, List.set_cons_zero, List.set_cons_succ, i64_w, i32_w]
              rfl
            refine last_ (i := 10) (N := none) #[true, true, true, true, true, true, true, true, true, true, true] rfl rfl (one_of HT_.out (by kernel_rfl)) (by decide) (fun K hK => ?_)
            have hs17 : w14.cell? ⟨gb219, 2, none⟩ = some (u220002) := (bc1 BK219.out 2).trans rfl
            have hfs17 := bz1 BK219.out 2
            have hns17_0 := NB218_219.out
            have hms17_0 := NB219_218.out
            refine skip_ (w1 := ?_) (by rfl) rfl ?_ ?_
            rotate_left
            · go_simp
              rfl
            refine hK.out _ _ ?_
            clear hK K
            refine done_ (done_of HT_.out (by kernel_rfl)) ?_
            try go_wp2
            go_roundg k1
            case measure => have := HK1.out; omega
            case rel => exact ⟨(wrap64 (x8_1 + 1)), (y224), (.slice Ao16 y224.length co16), (by first | rfl | (simp; done) | (simp [*]; done)), H', ⟨by have := HK1.out; omega⟩, ⟨by (with_reducible repeat (first | apply Kd.S_alloc | apply Kd.S_drewN | apply Kd.S_drew)); exact Kd.S_mono (Kd.S_far (p := ⟨gb219, 2, none⟩) (Kd.S_types HO226.out BK219.out (by decide)) (fun _ hk => hk.2) (.slice Ao16 y224.length co16)) (fun _ hk => trivial)⟩, ⟨by (with_reducible repeat (first | refine bn1 ?_ _ | refine bd1 ?_ | refine ba1 ?_ _)); refine bf1 ?_ NB218_219.out _; (with_reducible repeat (first | refine bn1 ?_ _ | refine bd1 ?_ | refine ba1 ?_ _)); exact BK218.out⟩, ⟨by (with_reducible repeat (first | refine bn1 ?_ _ | refine bd1 ?_ | refine ba1 ?_ _)); refine bp1 (cs := #[.int .i64 1, .int .u8 a0, u220002, .string (⟨#[]⟩ : ByteArray), .int .u8 a1, .string (⟨#[]⟩ : ByteArray)]) ?_ 2 _ rfl; (with_reducible repeat (first | refine bn1 ?_ _ | refine bd1 ?_ | refine ba1 ?_ _)); exact BK219.out⟩, ⟨by repeat (first | (with_reducible first | exact HB.out | apply la1 | apply ln1 | apply ld1 | refine ls1 ?_ GE218.out | refine ls1 ?_ GE219.out) | exact HB.out)⟩⟩
          · rw [if_neg c10] at H
            exact absurd H (by simp)
        · rw [if_neg c9] at H
          exact absurd H (by simp)
      · rw [if_neg c8] at H
        have c8b0 : decide (x8_1 < (l2.length : Int)) = false := decide_eq_false c8
        clear c8
        simp only [Option.some.injEq, Prod.mk.injEq] at H
        obtain ⟨rfl, rfl, rfl, rfl, rfl, rfl⟩ := H
        have hnb18 := NB219_218.out
        have hnc18 := NB218_219.out
        have hcz19_0 : wr.cell? ⟨gb219, 0, none⟩ = some (.int .i64 1) := (bc1 BK219.out 0).trans rfl
        have hcz19_1 : wr.cell? ⟨gb219, 1, none⟩ = some (.int .u8 a0) := (bc1 BK219.out 1).trans rfl
        have hcz19_2 : wr.cell? ⟨gb219, 2, none⟩ = some (u220002) := (bc1 BK219.out 2).trans rfl
        have hcz19_3 : wr.cell? ⟨gb219, 3, none⟩ = some (.string (⟨#[]⟩ : ByteArray)) := (bc1 BK219.out 3).trans rfl
        have hcz19_4 : wr.cell? ⟨gb219, 4, none⟩ = some (.int .u8 a1) := (bc1 BK219.out 4).trans rfl
        have hcz19_5 : wr.cell? ⟨gb219, 5, none⟩ = some (.string (⟨#[]⟩ : ByteArray)) := (bc1 BK219.out 5).trans rfl
        have hfz19_0 := bz1 BK219.out 0
        have hfz19_1 := bz1 BK219.out 1
        have hfz19_2 := bz1 BK219.out 2
        have hfz19_3 := bz1 BK219.out 3
        have hfz19_4 := bz1 BK219.out 4
        have hfz19_5 := bz1 BK219.out 5
        have hcz20_0 : wr.cell? ⟨gb218, 0, none⟩ = some (.int .i64 0) := (bc1 BK218.out 0).trans rfl
        have hcz20_1 : wr.cell? ⟨gb218, 1, none⟩ = some (.int .u8 0) := (bc1 BK218.out 1).trans rfl
        have hcz20_2 : wr.cell? ⟨gb218, 2, none⟩ = some (.slice none 0 0) := (bc1 BK218.out 2).trans rfl
        have hcz20_3 : wr.cell? ⟨gb218, 3, none⟩ = some (.string (⟨#[]⟩ : ByteArray)) := (bc1 BK218.out 3).trans rfl
        have hcz20_4 : wr.cell? ⟨gb218, 4, none⟩ = some (.int .u8 0) := (bc1 BK218.out 4).trans rfl
        have hcz20_5 : wr.cell? ⟨gb218, 5, none⟩ = some (.string (⟨#[]⟩ : ByteArray)) := (bc1 BK218.out 5).trans rfl
        have hfz20_0 := bz1 BK218.out 0
        have hfz20_1 := bz1 BK218.out 1
        have hfz20_2 := bz1 BK218.out 2
        have hfz20_3 := bz1 BK218.out 3
        have hfz20_4 := bz1 BK218.out 4
        have hfz20_5 := bz1 BK218.out 5
        obtain ⟨Ao21, co21, eo21⟩ := Kd.S_slice HO_220002.out
        subst eo21
        go_wp2
        refine bodyPost_ret (results_cell_row rfl _ _ gb218 30 #[.int .i64 1, .int .u8 a0, .slice Ao21 x220002_1.length co21, .string (⟨#[]⟩ : ByteArray), .int .u8 a1, .string (⟨#[]⟩ : ByteArray)] (0, 0) _ rfl (by (with_reducible repeat (first | refine bn1 ?_ _ | refine bd1 ?_ | refine ba1 ?_ _)); refine bp1 (cs := #[.int .i64 1, .int .u8 a0, .slice Ao21 x220002_1.length co21, .string (⟨#[]⟩ : ByteArray), .int .u8 a1, .string (⟨#[]⟩ : ByteArray)]) ?_ 5 _ rfl; (with_reducible repeat (first | refine bn1 ?_ _ | refine bd1 ?_ | refine ba1 ?_ _)); refine bp1 (cs := #[.int .i64 1, .int .u8 a0, .slice Ao21 x220002_1.length co21, .string (⟨#[]⟩ : ByteArray), .int .u8 0, .string (⟨#[]⟩ : ByteArray)]) ?_ 4 _ rfl; (with_reducible repeat (first | refine bn1 ?_ _ | refine bd1 ?_ | refine ba1 ?_ _)); refine bp1 (cs := #[.int .i64 1, .int .u8 a0, .slice Ao21 x220002_1.length co21, .string (⟨#[]⟩ : ByteArray), .int .u8 0, .string (⟨#[]⟩ : ByteArray)]) ?_ 3 _ rfl; (with_reducible repeat (first | refine bn1 ?_ _ | refine bd1 ?_ | refine ba1 ?_ _)); refine bp1 (cs := #[.int .i64 1, .int .u8 a0, .slice none 0 0, .string (⟨#[]⟩ : ByteArray), .int .u8 0, .string (⟨#[]⟩ : ByteArray)]) ?_ 2 _ rfl; (with_reducible repeat (first | refine bn1 ?_ _ | refine bd1 ?_ | refine ba1 ?_ _)); refine bp1 (cs := #[.int .i64 1, .int .u8 0, .slice none 0 0, .string (⟨#[]⟩ : ByteArray), .int .u8 0, .string (⟨#[]⟩ : ByteArray)]) ?_ 1 _ rfl; (with_reducible repeat (first | refine bn1 ?_ _ | refine bd1 ?_ | refine ba1 ?_ _)); refine bp1 (cs := #[.int .i64 0, .int .u8 0, .slice none 0 0, .string (⟨#[]⟩ : ByteArray), .int .u8 0, .string (⟨#[]⟩ : ByteArray)]) ?_ 0 _ rfl; (with_reducible repeat (first | refine bn1 ?_ _ | refine bd1 ?_ | refine ba1 ?_ _)); exact BK218.out) Tryd.underlying30 rfl (by kernel_rfl)) rfl ?_
        exact ⟨_, by first | rfl | (simp [errW_none, errW_some] <;> rfl) | (simp [*, errW_none, errW_some] <;> rfl), by (with_reducible repeat (first | apply Kd.S_alloc | apply Kd.S_drewN | apply Kd.S_drew)); exact Kd.S_mono (Kd.S_far (p := ⟨gb218, 5, none⟩) (Kd.S_far (p := ⟨gb218, 4, none⟩) (Kd.S_far (p := ⟨gb218, 3, none⟩) (Kd.S_far (p := ⟨gb218, 2, none⟩) (Kd.S_far (p := ⟨gb218, 1, none⟩) (Kd.S_far (p := ⟨gb218, 0, none⟩) (Kd.S_types HO_220002.out BK218.out (by decide)) (fun _ hk => hk.2) (.int .i64 1)) (fun _ hk => hk.2) (.int .u8 a0)) (fun _ hk => hk.2) (.slice Ao21 x220002_1.length co21)) (fun _ hk => hk.2) (.string (⟨#[]⟩ : ByteArray))) (fun _ hk => hk.2) (.int .u8 a1)) (fun _ hk => hk.2) (.string (⟨#[]⟩ : ByteArray))) (fun _ hk => trivial), by repeat (first | (with_reducible first | exact HB.out | apply la1 | apply ln1 | apply ld1 | refine ls1 ?_ GE218.out | refine ls1 ?_ GE219.out) | exact HB.out)⟩
def clavierref19_fact.f (a0 : Int) : Option (Int) := some (mn (mx a0 0) 65535)
set_option maxHeartbeats 8000000 in
set_option maxRecDepth 100000 in
theorem clavierref19_fact.calls (a0 : Int) (r : Int) (w : World) (h : clavierref19_fact.f a0 = some r) :
    Calls Tryd.prog 32 #[.int .i64 a0] w fun e w' => e = .returned (.int .i64 r) ∧ Below w.heap.size w w' := by
  have HB := Aside0.mk (Below.refl w.heap.size w)
  have H : (some (mn (mx a0 0) 65535)) = some r := h
  clear h
  obtain ⟨ji2, hji2⟩ : ∃ j_ : Int, (mx a0 0) = j_ := ⟨_, rfl⟩
  replace H : (some (mn (ji2) 65535)) = some r := by first | (rw [hji2] at H; exact H) | (simp only [hji2] at H ⊢; exact H)
  (try (have hji2l : 0 ≤ ji2 := by (rw [← hji2]; unfold mx; (repeat' split) <;> omega)))
  (try (have hji2m : 0 ≤ ji2 := by omega))
  have hji2_ : (if a0 < 0 then 0 else a0) = ji2 := hji2
  obtain ⟨ji3, hji3⟩ : ∃ j_ : Int, (mn (ji2) 65535) = j_ := ⟨_, rfl⟩
  replace H : (some ji3) = some r := by first | (rw [hji3] at H; exact H) | (simp only [hji3] at H ⊢; exact H)
  have hji3_ : (if 65535 < (ji2) then 65535 else (ji2)) = ji3 := hji3
  obtain rfl := Option.some.inj H
  go_enter Tryd.func32, Tryd.ntmps32
  go_wp2
  go_ret
  exact ⟨by first | rfl | (simp [errW_none, errW_some] <;> rfl) | (simp only [← hji2, ← hji3]; first | rfl | (simp [errW_none, errW_some] <;> rfl)) | (simp [*, errW_none, errW_some] <;> rfl), by repeat (first | (with_reducible first | exact HB.out | apply la1 | apply ln1 | apply ld1) | exact HB.out)⟩
end Go.Proofs.YtopcleljecdkkaaDoor.G
end
section
namespace Go.Proofs.YtopcleljecdkkaaDoor.G
set_option linter.unusedVariables false
set_option linter.unusedSimpArgs false
open Go.RowKit Kit Go.Proofs.YtopcleljecdkkaaDoorW.PrintWords Go.Proofs.YtopcleljecdkkaaDoorW.PrintMore
theorem rnum2 (pr fi a b : Int) : clavierref19_nums.f 10 pr fi [a, b] = some (1, pr, [[a], [b]], ⟨#[]⟩, fi, ⟨#[]⟩) := by simp [clavierref19_nums.f, clavierref19_nums.l0, rd, wrap64]
theorem rnum3 (pr fi a b c : Int) : clavierref19_nums.f 10 pr fi [a, b, c] = some (1, pr, [[a], [b], [c]], ⟨#[]⟩, fi, ⟨#[]⟩) := by simp [clavierref19_nums.f, clavierref19_nums.l0, rd, wrap64]
end Go.Proofs.YtopcleljecdkkaaDoor.G
end
section
namespace Go.Proofs.YtopcleljecdkkaaDoor
set_option linter.unusedVariables false
set_option linter.unusedSimpArgs false
open Go.RowKit Kit Go.Proofs.YtopcleljecdkkaaDoorW.PrintWords
attribute [local irreducible] wpList Calls
def RNumAt (pr fi : Int) (xs : List Int) (n : Nat) (w : World) : Prop := ∀ W b, Below w.heap.size w W → W.heap[b]? = some (.cells (xs.map (Value.int .i64)).toArray 3 (0, 0)) → Calls Tryd.prog 31 #[.int .u8 pr, .int .u8 fi, .slice (some ⟨b, 0, none⟩) n n] W fun e w' => ∃ v, e = .returned (seqV 1 pr v ⟨#[]⟩ fi ⟨#[]⟩) ∧ Kd.S (Kd.slice 3 (Kd.int .i64)) 52 w' W.heap.size (fun _ => True) v (xs.map fun x => [x]) ∧ Below W.heap.size W w'
set_option maxRecDepth 100000 in
set_option maxHeartbeats 2000000 in
theorem rmode_calls (m : Md) (p : Bool) (n fn gv : Int) (w : World) (hfact : Gives 32 #[.int .i64 n] (.int .i64 fn) w) (hget : Gives 46 #[m.v, .bool p, .int .i64 n] (.int .i64 gv) w) (hnum : RNumAt 0 121 [fn, gv] 2 w) :
    Calls Tryd.prog 19 #[m.v, .bool p, .int .i64 n] w fun e w' => ∃ v, e = .returned (seqV 1 (if p then 63 else 0) v ⟨#[36]⟩ 121 ⟨#[]⟩) ∧ Kd.S (Kd.slice 3 (Kd.int .i64)) 52 w' w.heap.size (fun _ => True) v [[fn], [gv]] ∧ Below w.heap.size w w' := by
  have HO := Mine.start w
  have HF := Lib.hid hfact
  have HG := Lib.hid hget
  have HN := Lib.hid hnum
  clear hfact hget hnum
  obtain ⟨c, x0, x1, x2, x3, x4, x5, x6, x7, x8⟩ := m
  go_enter Tryd.func19, Tryd.ntmps19
  go_wp2_with (first
      | ((with_reducible refine gate ?_); (first
      | ((refine own_box HO rfl rfl rfl ?_); clear HO; intro gB wN hgN HO; (simp only [List.nil_append, List.cons_append] at HO); (try simp only [Act.put, List.setIfInBounds_toArray, List.set_cons_zero, List.set_cons_succ]))
      | ((refine own_alloc (T := 30) HO rfl rfl Tryd.zeroValue30 rfl ?_); clear HO; intro gN wN hgN HO; (simp only [List.nil_append, List.cons_append] at HO); (try simp only [Act.put, List.setIfInBounds_toArray, List.set_cons_zero, List.set_cons_succ]))
      | ((refine own_load (T := 39) HO rfl rfl rfl (by first | exact .head _ | exact .tail _ (.head _) | exact .tail _ (.tail _ (.head _)) | exact .tail _ (.tail _ (.tail _ (.head _))) | exact .tail _ (.tail _ (.tail _ (.tail _ (.head _)))) | exact .tail _ (.tail _ (.tail _ (.tail _ (.tail _ (.head _)))))) Tryd.isAgg39 Tryd.sizeOf39 (by repeat constructor) ?_); (try simp only [Act.put, List.setIfInBounds_toArray, List.set_cons_zero, List.set_cons_succ]))
      | ((refine own_load (T := 30) HO rfl rfl rfl (by first | exact .head _ | exact .tail _ (.head _) | exact .tail _ (.tail _ (.head _)) | exact .tail _ (.tail _ (.tail _ (.head _))) | exact .tail _ (.tail _ (.tail _ (.tail _ (.head _)))) | exact .tail _ (.tail _ (.tail _ (.tail _ (.tail _ (.head _)))))) Tryd.isAgg30 Tryd.sizeOf30 (by repeat constructor) ?_); (try simp only [Act.put, List.setIfInBounds_toArray, List.set_cons_zero, List.set_cons_succ]))
      | ((refine own_store (T := 39) HO rfl rfl rfl rfl (by first | exact .here | exact .there (.here) | exact .there (.there (.here)) | exact .there (.there (.there (.here))) | exact .there (.there (.there (.there (.here)))) | exact .there (.there (.there (.there (.there (.here)))))) Tryd.sizeOf39 (by repeat constructor) rfl ?_); clear HO; intro wN HO; (try simp only [Act.put, List.setIfInBounds_toArray, List.set_cons_zero, List.set_cons_succ]))
      | ((refine own_store (T := 30) HO rfl rfl rfl rfl (by first | exact .here | exact .there (.here) | exact .there (.there (.here)) | exact .there (.there (.there (.here))) | exact .there (.there (.there (.there (.here)))) | exact .there (.there (.there (.there (.there (.here)))))) Tryd.sizeOf30 (by repeat constructor) rfl ?_); clear HO; intro wN HO; (try simp only [Act.put, List.setIfInBounds_toArray, List.set_cons_zero, List.set_cons_succ])))))
  have hlt : ∀ q ∈ [(gB, IsCells [Value.bool c, Value.bool x0, Value.bool x1, Value.bool x2, Value.bool x3, Value.bool x4, Value.bool x5, Value.int .i64 x6, Value.int .i64 x7, Value.int .i64 x8] 39), (gN, IsCells [Value.int .i64 0, Value.int .u8 0, Value.slice none 0 0, Value.string ⟨#[]⟩, Value.int .u8 0, Value.string ⟨#[]⟩] 30)], q.1 < wN.heap.size := fun q hq => HO.lt hq
  have hW0 := HO.below.size
  have HL := Lib.hid hlt
  have HW0 := Lib.hid hW0
  clear hlt hW0
  refine region_mine 9 [fIs (.int .i64 n), fIs (.int .i64 fn), fIs (Md.v ⟨c, x0, x1, x2, x3, x4, x5, x6, x7, x8⟩), fIs (.bool p), fIs (.int .i64 n), fIs (.int .i64 gv), fRow 3 2 [.int .i64 fn, .int .i64 gv], fSeq w.heap.size 1 0 [[fn], [gv]] ⟨#[]⟩ 121 ⟨#[]⟩,
    fVar wN.heap.size 30 [Value.int .i64 0, Value.int .u8 0, Value.slice none 0 0, Value.string ⟨#[]⟩, Value.int .u8 0, Value.string ⟨#[]⟩]] HO (by kernel_rfl) (by kernel_rfl) (by decide) (by kernel_rfl)
    (stays_cons (Stays.fIs _) (stays_cons (Stays.fIs _) (stays_cons (Stays.fIs _) (stays_cons (Stays.fIs _) (stays_cons (Stays.fIs _) (stays_cons (Stays.fIs _) (stays_cons (Stays.fRow _ _ _) (stays_cons (stays_seq _ _ _ _ _ _ _) (stays_cons (Stays.fVar _ _ _) stays_nil))))))))) ?_
  intro vals A hA
  simp [fillL, dstOf, List.range, List.range.loop, Act.put] at hA
  subst hA
  refine ⟨⟨?_, ?_, ?_, ?_, ?_, ?_, ?_, ?_, ?_, trivial⟩, ?_⟩
  all_goals intro W hd hM hsz
  case refine_1 => exact st_val rfl (by simp only [execOp]; first | (go_simp; done) | (go_simp; rfl)) rfl
  case refine_2 =>
    have e0 : vals 0 = .int .i64 n := hd 0 (by kernel_rfl)
    exact st_call rfl (by simp only [execOp]; first | (go_simp; done) | (go_simp; rfl)) (HF.out W hM.below) (by rintro e w' ⟨rfl, hb⟩; exact ⟨_, rfl, hb, rfl⟩)
  case refine_3 => exact st_load hM rfl rfl rfl (.head _) Tryd.isAgg39 Tryd.sizeOf39 (by repeat constructor) rfl
  case refine_4 => exact st_val rfl (by simp only [execOp]; first | (go_simp; done) | (go_simp; rfl)) rfl
  case refine_5 => exact st_val rfl (by simp only [execOp]; first | (go_simp; done) | (go_simp; rfl)) rfl
  case refine_6 =>
    have e5 : vals 2 = Md.v ⟨c, x0, x1, x2, x3, x4, x5, x6, x7, x8⟩ := hd 2 (by kernel_rfl)
    have e6 : vals 3 = .bool p := hd 3 (by kernel_rfl)
    have e7 : vals 4 = .int .i64 n := hd 4 (by kernel_rfl)
    exact st_call rfl (by simp only [execOp]; first | (go_simp; done) | (go_simp; rfl)) (HG.out W hM.below) (by rintro e w' ⟨rfl, hb⟩; exact ⟨_, rfl, hb, rfl⟩)
  case refine_7 =>
    have e4 : vals 1 = .int .i64 fn := hd 1 (by kernel_rfl)
    have e8 : vals 5 = .int .i64 gv := hd 5 (by kernel_rfl)
    exact st_new (ob := .cells #[.int .i64 fn, .int .i64 gv] 3 (0, 0)) rfl (by simp only [execOp]; first | (go_simp; done) | (go_simp; rfl)) (fun h => ⟨_, rfl, h⟩)
  case refine_8 =>
    obtain ⟨b, e9, hb9⟩ : fRow 3 2 [.int .i64 fn, .int .i64 gv] (vals 6) W := hd 6 (by kernel_rfl)
    exact st_call rfl (by simp only [execOp]; first | (go_simp; done) | (go_simp; rfl)) (HN.out W b hM.below hb9) (by rintro e w' ⟨v, rfl, hS, hb⟩; exact ⟨_, rfl, hb, v, rfl, Kd.S_lower hS hM.below.size⟩)
  case refine_9 => exact st_new (ob := .cells #[.int .i64 0, .int .u8 0, .slice none 0 0, .string ⟨#[]⟩, .int .u8 0, .string ⟨#[]⟩] 30 (0, 0)) rfl (by simp only [execOp]; first | (go_simp; done) | (go_simp; rfl)) (fun h => ⟨_, rfl, hsz, h⟩)
  case refine_10 =>
    obtain ⟨v, e10, hS⟩ : fSeq w.heap.size 1 0 [[fn], [gv]] ⟨#[]⟩ 121 ⟨#[]⟩ (vals 7) W := hd 7 (by omega)
    obtain ⟨vA, vc, rfl⟩ := Kd.S_slice hS
    obtain ⟨gS, e11, hge, hgS⟩ : fVar wN.heap.size 30 _ (vals 8) W := hd 8 (by omega)
    have HO := hM.take (p := IsCells [.int .i64 0, .int .u8 0, .slice none 0 0, .string ⟨#[]⟩, .int .u8 0, .string ⟨#[]⟩] 30) HL.out HW0.out hge ⟨_, hgS, rfl⟩
    simp only [List.nil_append, List.cons_append] at HO
    have HXS : XS 30 (fun w' => Kd.S (Kd.slice 3 (Kd.int .i64)) 52 w' w.heap.size (fun _ => True) (.slice vA 2 vc) [[fn], [gv]]) := XS.rows _ _ _ _ _ _ (by decide)
    have HX : (fun w' => Kd.S (Kd.slice 3 (Kd.int .i64)) 52 w' w.heap.size (fun _ => True) (.slice vA 2 vc) [[fn], [gv]]) W := hS
    rw [e10, e11]
    unfold seqV
    simp only [List.drop_succ_cons, List.drop_zero]
    clear hd hM hS hgS
    cases p
    · go_wp2_with (first
      | ((with_reducible refine gate ?_); (first
      | ((refine own_boxX HO HX HXB rfl rfl rfl ?_); clear HO HX; intro gN wN hgN HO HX; (simp only [List.nil_append, List.cons_append] at HO); (try simp only [Act.put, List.setIfInBounds_toArray, List.set_cons_zero, List.set_cons_succ]))
      | ((refine own_load (T := 30) HO rfl rfl rfl (by first | exact .head _ | exact .tail _ (.head _) | exact .tail _ (.tail _ (.head _)) | exact .tail _ (.tail _ (.tail _ (.head _))) | exact .tail _ (.tail _ (.tail _ (.tail _ (.head _)))) | exact .tail _ (.tail _ (.tail _ (.tail _ (.tail _ (.head _)))))) Tryd.isAgg30 Tryd.sizeOf30 (by repeat constructor) ?_); (try simp only [Act.put, List.setIfInBounds_toArray, List.set_cons_zero, List.set_cons_succ]))
      | ((refine own_load1 (T := 9) HO rfl rfl rfl (by first | exact .head _ | exact .tail _ (.head _) | exact .tail _ (.tail _ (.head _)) | exact .tail _ (.tail _ (.tail _ (.head _))) | exact .tail _ (.tail _ (.tail _ (.tail _ (.head _)))) | exact .tail _ (.tail _ (.tail _ (.tail _ (.tail _ (.head _)))))) Tryd.isAgg9 rfl ?_); (try simp only [Act.put, List.setIfInBounds_toArray, List.set_cons_zero, List.set_cons_succ]))
      | ((refine own_load1 (T := 5) HO rfl rfl rfl (by first | exact .head _ | exact .tail _ (.head _) | exact .tail _ (.tail _ (.head _)) | exact .tail _ (.tail _ (.tail _ (.head _))) | exact .tail _ (.tail _ (.tail _ (.tail _ (.head _)))) | exact .tail _ (.tail _ (.tail _ (.tail _ (.tail _ (.head _)))))) Tryd.isAgg5 rfl ?_); (try simp only [Act.put, List.setIfInBounds_toArray, List.set_cons_zero, List.set_cons_succ]))
      | ((refine own_storeX (T := 30) HO HX rfl rfl rfl rfl (by first | exact .here | exact .there (.here) | exact .there (.there (.here)) | exact .there (.there (.there (.here))) | exact .there (.there (.there (.there (.here)))) | exact .there (.there (.there (.there (.there (.here)))))) HXS Tryd.sizeOf30 (by repeat constructor) rfl ?_); clear HO HX; intro wN HO HX; (try simp only [Act.put, List.setIfInBounds_toArray, List.set_cons_zero, List.set_cons_succ]))
      | ((refine own_storeX1 (T := 9) HO HX rfl rfl rfl (by first | exact .const | exact .tmp rfl | exact .func) (by rfl) (by first | exact .here | exact .there (.here) | exact .there (.there (.here)) | exact .there (.there (.there (.here))) | exact .there (.there (.there (.there (.here)))) | exact .there (.there (.there (.there (.there (.here)))))) HXS Tryd.sizeOf9 (by repeat constructor) (by rfl) ?_); clear HO HX; intro wN HO HX; (try simp only [Act.put, List.setIfInBounds_toArray, List.set_cons_zero, List.set_cons_succ]))
      | ((refine own_storeX1 (T := 5) HO HX rfl rfl rfl (by first | exact .const | exact .tmp rfl | exact .func) (by rfl) (by first | exact .here | exact .there (.here) | exact .there (.there (.here)) | exact .there (.there (.there (.here))) | exact .there (.there (.there (.there (.here)))) | exact .there (.there (.there (.there (.there (.here)))))) HXS Tryd.sizeOf5 (by repeat constructor) (by rfl) ?_); clear HO HX; intro wN HO HX; (try simp only [Act.put, List.setIfInBounds_toArray, List.set_cons_zero, List.set_cons_succ])))))
      exact bodyPost_ret (own_results1 HO Tryd.results19 rfl (by first | exact .head _ | exact .tail _ (.head _) | exact .tail _ (.tail _ (.head _)) | exact .tail _ (.tail _ (.tail _ (.head _))) | exact .tail _ (.tail _ (.tail _ (.tail _ (.head _)))) | exact .tail _ (.tail _ (.tail _ (.tail _ (.tail _ (.head _)))))) Tryd.isAgg30 Tryd.sizeOf30 (by repeat constructor)) rfl ⟨_, rfl, HX, HO.below⟩
    · go_wp2_with (first
      | ((with_reducible refine gate ?_); (first
      | ((refine own_boxX HO HX HXB rfl rfl rfl ?_); clear HO HX; intro gN wN hgN HO HX; (simp only [List.nil_append, List.cons_append] at HO); (try simp only [Act.put, List.setIfInBounds_toArray, List.set_cons_zero, List.set_cons_succ]))
      | ((refine own_load (T := 30) HO rfl rfl rfl (by first | exact .head _ | exact .tail _ (.head _) | exact .tail _ (.tail _ (.head _)) | exact .tail _ (.tail _ (.tail _ (.head _))) | exact .tail _ (.tail _ (.tail _ (.tail _ (.head _)))) | exact .tail _ (.tail _ (.tail _ (.tail _ (.tail _ (.head _)))))) Tryd.isAgg30 Tryd.sizeOf30 (by repeat constructor) ?_); (try simp only [Act.put, List.setIfInBounds_toArray, List.set_cons_zero, List.set_cons_succ]))
      | ((refine own_load1 (T := 9) HO rfl rfl rfl (by first | exact .head _ | exact .tail _ (.head _) | exact .tail _ (.tail _ (.head _)) | exact .tail _ (.tail _ (.tail _ (.head _))) | exact .tail _ (.tail _ (.tail _ (.tail _ (.head _)))) | exact .tail _ (.tail _ (.tail _ (.tail _ (.tail _ (.head _)))))) Tryd.isAgg9 rfl ?_); (try simp only [Act.put, List.setIfInBounds_toArray, List.set_cons_zero, List.set_cons_succ]))
      | ((refine own_load1 (T := 5) HO rfl rfl rfl (by first | exact .head _ | exact .tail _ (.head _) | exact .tail _ (.tail _ (.head _)) | exact .tail _ (.tail _ (.tail _ (.head _))) | exact .tail _ (.tail _ (.tail _ (.tail _ (.head _)))) | exact .tail _ (.tail _ (.tail _ (.tail _ (.tail _ (.head _)))))) Tryd.isAgg5 rfl ?_); (try simp only [Act.put, List.setIfInBounds_toArray, List.set_cons_zero, List.set_cons_succ]))
      | ((refine own_storeX (T := 30) HO HX rfl rfl rfl rfl (by first | exact .here | exact .there (.here) | exact .there (.there (.here)) | exact .there (.there (.there (.here))) | exact .there (.there (.there (.there (.here)))) | exact .there (.there (.there (.there (.there (.here)))))) HXS Tryd.sizeOf30 (by repeat constructor) rfl ?_); clear HO HX; intro wN HO HX; (try simp only [Act.put, List.setIfInBounds_toArray, List.set_cons_zero, List.set_cons_succ]))
      | ((refine own_storeX1 (T := 9) HO HX rfl rfl rfl (by first | exact .const | exact .tmp rfl | exact .func) (by rfl) (by first | exact .here | exact .there (.here) | exact .there (.there (.here)) | exact .there (.there (.there (.here))) | exact .there (.there (.there (.there (.here)))) | exact .there (.there (.there (.there (.there (.here)))))) HXS Tryd.sizeOf9 (by repeat constructor) (by rfl) ?_); clear HO HX; intro wN HO HX; (try simp only [Act.put, List.setIfInBounds_toArray, List.set_cons_zero, List.set_cons_succ]))
      | ((refine own_storeX1 (T := 5) HO HX rfl rfl rfl (by first | exact .const | exact .tmp rfl | exact .func) (by rfl) (by first | exact .here | exact .there (.here) | exact .there (.there (.here)) | exact .there (.there (.there (.here))) | exact .there (.there (.there (.there (.here)))) | exact .there (.there (.there (.there (.there (.here)))))) HXS Tryd.sizeOf5 (by repeat constructor) (by rfl) ?_); clear HO HX; intro wN HO HX; (try simp only [Act.put, List.setIfInBounds_toArray, List.set_cons_zero, List.set_cons_succ])))))
      exact bodyPost_ret (own_results1 HO Tryd.results19 rfl (by first | exact .head _ | exact .tail _ (.head _) | exact .tail _ (.tail _ (.head _)) | exact .tail _ (.tail _ (.tail _ (.head _))) | exact .tail _ (.tail _ (.tail _ (.tail _ (.head _)))) | exact .tail _ (.tail _ (.tail _ (.tail _ (.tail _ (.head _)))))) Tryd.isAgg30 Tryd.sizeOf30 (by repeat constructor)) rfl ⟨_, rfl, HX, HO.below⟩
end Go.Proofs.YtopcleljecdkkaaDoor
end
section
namespace Go.Proofs.YtopcleljecdkkaaDoor.G
open Go.RowKit Go.Proofs.YtopcleljecdkkaaDoorW.PrintWords Go.Proofs.YtopcleljecdkkaaDoorW.PrintLast Go.Proofs.YtopcleljecdkkaaDoorW.PrintMore
attribute [local go_sem] max2_int min2_int max_two min_two max_three min_three max_four min_four
set_option linter.unusedVariables false
set_option linter.unusedSimpArgs false
def clavierref08_Flags.f (a0 : Int) : Option (Int) := some ((mx a0 0) % 32)
set_option maxHeartbeats 8000000 in
set_option maxRecDepth 100000 in
theorem clavierref08_Flags.calls (a0 : Int) (r : Int) (w : World) (h : clavierref08_Flags.f a0 = some r) :
    Calls Tryd.prog 48 #[.int .i64 a0] w fun e w' => e = .returned (.int .i64 r) ∧ Below w.heap.size w w' := by
  have HB := Aside0.mk (Below.refl w.heap.size w)
  have H : (some ((mx a0 0) % 32)) = some r := h
  clear h
  obtain ⟨ji2, hji2⟩ : ∃ j_ : Int, (mx a0 0) = j_ := ⟨_, rfl⟩
  replace H : (some ((ji2) % 32)) = some r := by first | (rw [hji2] at H; exact H) | (simp only [hji2] at H ⊢; exact H)
  (try (have hji2l : 0 ≤ ji2 := by (rw [← hji2]; unfold mx; (repeat' split) <;> omega)))
  (try (have hji2m : 0 ≤ ji2 := by omega))
  have hji2_ : (if a0 < 0 then 0 else a0) = ji2 := hji2
  obtain rfl := Option.some.inj H
  go_enter Tryd.func48, Tryd.ntmps48
  go_wp2
  go_ret
  exact ⟨by first | rfl | (simp [errW_none, errW_some] <;> rfl) | (simp only [← hji2]; first | rfl | (simp [errW_none, errW_some] <;> rfl)) | (simp [*, errW_none, errW_some] <;> rfl), by repeat (first | (with_reducible first | exact HB.out | apply la1 | apply ln1 | apply ld1) | exact HB.out)⟩
end Go.Proofs.YtopcleljecdkkaaDoor.G
end
section
namespace Go.Proofs.YtopcleljecdkkaaDoor.G
open Go.RowKit Go.Proofs.YtopcleljecdkkaaDoorW.PrintWords Go.Proofs.YtopcleljecdkkaaDoorW.PrintLast Go.Proofs.YtopcleljecdkkaaDoorW.PrintMore
attribute [local go_sem] max2_int min2_int max_two min_two max_three min_three max_four min_four
set_option linter.unusedVariables false
set_option linter.unusedSimpArgs false
def clavierref19_Attributes.f (k : Nat) (a0 : Int) : Option (Int × Int × (List (List Int)) × ByteArray × Int × ByteArray) := if a0 = 0 then ((clavierref19_nums.f k 63 99 (([62, 22] : List Int))).bind fun bt428 => (some (bt428.1, bt428.2.1, bt428.2.2.1, bt428.2.2.2.1, bt428.2.2.2.2.1, bt428.2.2.2.2.2))) else (if a0 = 62 then ((clavierref19_nums.f k 62 99 (([41, 1, 0] : List Int))).bind fun bt439 => (some (bt439.1, bt439.2.1, bt439.2.2.1, bt439.2.2.2.1, bt439.2.2.2.2.1, bt439.2.2.2.2.2))) else (if a0 = 61 then (some (3, 0, ([] : List (List Int)), (⟨#[33]⟩ : ByteArray), 124, (⟨#[48, 48, 48, 48, 48, 48, 48, 48]⟩ : ByteArray))) else (some (0, 0, ([] : List (List Int)), (⟨#[]⟩ : ByteArray), 0, (⟨#[]⟩ : ByteArray)))))
theorem clavierref19_Attributes.mono : ∀ a0 k, LeO (clavierref19_Attributes.f k a0) (clavierref19_Attributes.f (k + 1) a0) := by
  intro a0 k
  unfold clavierref19_Attributes.f
  repeat' first
      | (with_reducible exact clavierref19_nums.mono _ _ _ _)
      | (with_reducible exact LeO.refl _)
      | (with_reducible exact LeO.none _)
      | (with_reducible refine LeO.ite ?_ ?_)
      | (with_reducible refine LeO.bind ?_ (fun _ => ?_))
      | exact clavierref19_nums.mono _ _ _ _
      | exact LeO.none _
      | refine LeO.ite ?_ ?_
      | refine LeO.bind ?_ (fun _ => ?_)
set_option maxHeartbeats 8000000 in
set_option maxRecDepth 100000 in
theorem clavierref19_Attributes.calls (k : Nat) (a0 : Int) (r1 : Int) (r2 : Int) (r3 : List (List Int)) (r4 : ByteArray) (r5 : Int) (r6 : ByteArray) (w : World) (h : clavierref19_Attributes.f k a0 = some (r1, r2, r3, r4, r5, r6)) :
    Calls Tryd.prog 17 #[.int .u8 a0] w fun e w' => ∃ v2_ : Value, e = .returned (.agg #[.int .i64 r1, .int .u8 r2, v2_, .string r4, .int .u8 r5, .string r6]) ∧ Kd.S (Kd.slice 3 (Kd.int .i64)) 52 w' w.heap.size (fun _ => True) v2_ r3 ∧ Below w.heap.size w w' := by
  have hu30 := Tryd.underlying30
  have HB := Aside0.mk (Below.refl w.heap.size w)
  have H : (if a0 = 0 then ((clavierref19_nums.f k 63 99 (([62, 22] : List Int))).bind fun bt428 => (some (bt428.1, bt428.2.1, bt428.2.2.1, bt428.2.2.2.1, bt428.2.2.2.2.1, bt428.2.2.2.2.2))) else (if a0 = 62 then ((clavierref19_nums.f k 62 99 (([41, 1, 0] : List Int))).bind fun bt439 => (some (bt439.1, bt439.2.1, bt439.2.2.1, bt439.2.2.2.1, bt439.2.2.2.2.1, bt439.2.2.2.2.2))) else (if a0 = 61 then (some (3, 0, ([] : List (List Int)), (⟨#[33]⟩ : ByteArray), 124, (⟨#[48, 48, 48, 48, 48, 48, 48, 48]⟩ : ByteArray))) else (some (0, 0, ([] : List (List Int)), (⟨#[]⟩ : ByteArray), 0, (⟨#[]⟩ : ByteArray)))))) = some (r1, r2, r3, r4, r5, r6) := h
  clear h
  by_cases c2 : a0 = 0
  · rw [if_pos c2] at H
    have c2b0 : (a0 == 0) = true := beq_iff_eq.mpr c2
    have c2b1 : (a0 != 0) = false := bne_eq_false_iff_eq.mpr c2
    clear c2
    obtain ⟨y425, hy425⟩ : ∃ y_ : List Int, y_ = (([62, 22] : List Int)) := ⟨_, rfl⟩
    replace H : ((clavierref19_nums.f k 63 99 y425).bind fun bt428 => (some (bt428.1, bt428.2.1, bt428.2.2.1, bt428.2.2.2.1, bt428.2.2.2.2.1, bt428.2.2.2.2.2))) = some (r1, r2, r3, r4, r5, r6) := by first | (rw [hy425]; with_reducible exact H) | (have H2_ := (Option.bind_some _ _).symm.trans H; rw [hy425]; with_reducible exact H2_) | (have H2_ := (Option.bind_some _ _).symm.trans H; with_reducible exact H2_) | with_reducible exact H | (rw [hy425]; exact H) | exact H
    have Ny425 := Aside0.mk hy425
    clear hy425
    replace H := Option.bind_eq_some_iff.mp H
    obtain ⟨⟨t428, t429, t430, t433, t434, t435⟩, A30, H⟩ := H
    replace H : (some (t428, t429, t430, t433, t434, t435)) = some (r1, r2, r3, r4, r5, r6) := H
    have A3 := Aside0.mk A30
    clear A30
    simp only [Option.some.injEq, Prod.mk.injEq] at H
    obtain ⟨rfl, rfl, rfl, rfl, rfl, rfl⟩ := H
    go_enter Tryd.func17, Tryd.ntmps17
    go_wp2_with (first | ((with_reducible refine gate_dst (N := 2) rfl ?_); refine box_event ?hg (N := 2) ?hd (cs := #[.int .i64 0, .int .u8 0, .slice none 0 0, .string (⟨#[]⟩ : ByteArray), .int .u8 0, .string (⟨#[]⟩ : ByteArray)]) (t := 30) ?hr ?_; (case hd => rfl); (case hg => rfl); (case hr => first | (go_simp; done) | (go_simp; rfl)); intro gb424 hg w4 hbox hb; have n0_ := Aside0.mk (below_step (by repeat (first | (with_reducible first | exact HB.out | apply la1 | apply ln1 | apply ld1) | exact HB.out)) hb); have n1_ := Aside0.mk (hbox); have n2_ := Aside0.mk ((by rw [hg]; exact (below_size (by repeat (first | (with_reducible first | exact HB.out | apply la1 | apply ln1 | apply ld1) | exact HB.out))) : w.heap.size ≤ gb424)); have n3_ := Aside0.mk ((by rw [hg]; exact (below_size (by repeat (first | (with_reducible first | exact HB.out | apply la1 | apply ln1 | apply ld1) | exact HB.out))) : w.heap.size ≤ gb424)); clear HB; have HB := n0_; have BK424 := n1_; have GW424 := n2_; have GE424 := n3_; clear n0_ n1_ n2_ n3_; clear hb hbox hg) | ((with_reducible refine gate_dst (N := 6) rfl ?_); refine Kd.R_lit (Kd.int .i64) _ 3 ?hg (N := 6) ?hd (xs := ([62, 22] : List Int)) (inner := [.int .i64 62, .int .i64 22]) (ok := fun _ => True) (okp := fun _ => True) ?hr ?hp (fun _ hk => hk) trivial (Below.refl _ _) (Nat.le_refl _) (by simp) ?_; (case hd => rfl); (case hg => rfl); (case hr => first | (go_simp; done) | (go_simp; rfl)); (case hp => exact (Reps.one (show Kd.M (Kd.int .i64) _ _ _ 62 [.int .i64 62] from rfl) (Reps.one (show Kd.M (Kd.int .i64) _ _ _ 22 [.int .i64 22] from rfl) (Reps.none _ _)))); intro v426 w5 ho6 hb hg_ hnew_; clear hg_ hnew_; (first | rw [← Ny425.out] at ho6 | (simp only [Int.reduceToNat] at ho6; rw [← Ny425.out] at ho6)); have n0_ := Aside0.mk (Kd.R_lower ho6 (below_size (by repeat (first | (with_reducible first | exact HB.out | apply la1 | apply ln1 | apply ld1 | refine ls1 ?_ GE424.out) | exact HB.out)))); have n1_ := Aside0.mk (bb1 (g := gb424) (o := .cells #[.int .i64 0, .int .u8 0, .slice none 0 0, .string (⟨#[]⟩ : ByteArray), .int .u8 0, .string (⟨#[]⟩ : ByteArray)] 30 (0, 0)) (by (with_reducible repeat (first | refine bn1 ?_ _ | refine bd1 ?_ | refine ba1 ?_ _)); exact BK424.out) hb); have n2_ := Aside0.mk (below_step (by repeat (first | (with_reducible first | exact HB.out | apply la1 | apply ln1 | apply ld1 | refine ls1 ?_ GE424.out) | exact HB.out)) hb); clear BK424; clear HB; have HO427 := n0_; have BK424 := n1_; have HB := n2_; clear n0_ n1_ n2_; clear hb ho6; obtain ⟨Ao7, co7, eo7⟩ := Kd.R_slice HO427.out; subst eo7) | ((with_reducible refine gate_callee (f := 31) rfl ?_); refine goesL_ (some 7) rfl rfl Tryd.func31 (by kernel_rfl) rfl #[.int .u8 63, .int .u8 99, .slice Ao7 y425.length co7] rfl (by (try simp only [List.map_toArray, List.map_cons, List.map_nil]); first | done | rfl | (simp only [List.length_drop, List.length_take]; rfl)) ?_; (with_reducible refine (clavierref19_nums.calls k 63 99 _ _ y425 t428 t429 t430 t433 t434 t435 _ ?side1 ?side2 A3.out).mono ?_); (case side1 => repeat (first | exact (Kd.R_reads' HO427.out).2.2 | (with_reducible refine Kd.C_alloc ?_ _) | (with_reducible refine Kd.C_drewN ?_ _) | (with_reducible refine Kd.C_drew ?_))); (case side2 => exact (Kd.R_reads' HO427.out).2.1); rintro e w8 ⟨v431, rfl, ho0, hb⟩; refine ⟨_, rfl, ?_⟩; have n0_ := Aside0.mk (Kd.R_below (by (with_reducible repeat (first | apply Kd.R_alloc | apply Kd.R_drewN | apply Kd.R_drew)); exact HO427.out) hb); have n1_ := Aside0.mk (Kd.S_lower (Kd.S_new' ho0 (Kd.R_lt (by (with_reducible repeat (first | apply Kd.R_alloc | apply Kd.R_drewN | apply Kd.R_drew)); exact HO427.out))) (below_size (by repeat (first | (with_reducible first | exact HB.out | apply la1 | apply ln1 | apply ld1 | refine ls1 ?_ GE424.out) | exact HB.out)))); have n2_ := Aside0.mk (bb1 (g := gb424) (o := .cells #[.int .i64 0, .int .u8 0, .slice none 0 0, .string (⟨#[]⟩ : ByteArray), .int .u8 0, .string (⟨#[]⟩ : ByteArray)] 30 (0, 0)) (by (with_reducible repeat (first | refine bn1 ?_ _ | refine bd1 ?_ | refine ba1 ?_ _)); exact BK424.out) hb); have n3_ := Aside0.mk (below_step (by repeat (first | (with_reducible first | exact HB.out | apply la1 | apply ln1 | apply ld1 | refine ls1 ?_ GE424.out) | exact HB.out)) hb); clear HO427; clear BK424; clear HB; have HO427 := n0_; have HO432 := n1_; have BK424 := n2_; have HB := n3_; clear n0_ n1_ n2_ n3_; (try clear hb); (try clear hb2); (try clear hk); (try clear hi); (try clear ho0); have hcz9_0 : w8.cell? ⟨gb424, 0, none⟩ = some (.int .i64 0) := (bc1 BK424.out 0).trans rfl; have hcz9_1 : w8.cell? ⟨gb424, 1, none⟩ = some (.int .u8 0) := (bc1 BK424.out 1).trans rfl; have hcz9_2 : w8.cell? ⟨gb424, 2, none⟩ = some (.slice none 0 0) := (bc1 BK424.out 2).trans rfl; have hcz9_3 : w8.cell? ⟨gb424, 3, none⟩ = some (.string (⟨#[]⟩ : ByteArray)) := (bc1 BK424.out 3).trans rfl; have hcz9_4 : w8.cell? ⟨gb424, 4, none⟩ = some (.int .u8 0) := (bc1 BK424.out 4).trans rfl; have hcz9_5 : w8.cell? ⟨gb424, 5, none⟩ = some (.string (⟨#[]⟩ : ByteArray)) := (bc1 BK424.out 5).trans rfl; have hfz9_0 := bz1 BK424.out 0; have hfz9_1 := bz1 BK424.out 1; have hfz9_2 := bz1 BK424.out 2; have hfz9_3 := bz1 BK424.out 3; have hfz9_4 := bz1 BK424.out 4; have hfz9_5 := bz1 BK424.out 5; obtain ⟨Ao10, co10, eo10⟩ := Kd.S_slice HO432.out; subst eo10))
    refine bodyPost_ret (results_cell_row rfl _ _ gb424 30 #[.int .i64 t428, .int .u8 t429, .slice Ao10 t430.length co10, .string t433, .int .u8 t434, .string t435] (0, 0) _ rfl (by (with_reducible repeat (first | refine bn1 ?_ _ | refine bd1 ?_ | refine ba1 ?_ _)); refine bp1 (cs := #[.int .i64 t428, .int .u8 t429, .slice Ao10 t430.length co10, .string t433, .int .u8 t434, .string (⟨#[]⟩ : ByteArray)]) ?_ 5 _ rfl; (with_reducible repeat (first | refine bn1 ?_ _ | refine bd1 ?_ | refine ba1 ?_ _)); refine bp1 (cs := #[.int .i64 t428, .int .u8 t429, .slice Ao10 t430.length co10, .string t433, .int .u8 0, .string (⟨#[]⟩ : ByteArray)]) ?_ 4 _ rfl; (with_reducible repeat (first | refine bn1 ?_ _ | refine bd1 ?_ | refine ba1 ?_ _)); refine bp1 (cs := #[.int .i64 t428, .int .u8 t429, .slice Ao10 t430.length co10, .string (⟨#[]⟩ : ByteArray), .int .u8 0, .string (⟨#[]⟩ : ByteArray)]) ?_ 3 _ rfl; (with_reducible repeat (first | refine bn1 ?_ _ | refine bd1 ?_ | refine ba1 ?_ _)); refine bp1 (cs := #[.int .i64 t428, .int .u8 t429, .slice none 0 0, .string (⟨#[]⟩ : ByteArray), .int .u8 0, .string (⟨#[]⟩ : ByteArray)]) ?_ 2 _ rfl; (with_reducible repeat (first | refine bn1 ?_ _ | refine bd1 ?_ | refine ba1 ?_ _)); refine bp1 (cs := #[.int .i64 t428, .int .u8 0, .slice none 0 0, .string (⟨#[]⟩ : ByteArray), .int .u8 0, .string (⟨#[]⟩ : ByteArray)]) ?_ 1 _ rfl; (with_reducible repeat (first | refine bn1 ?_ _ | refine bd1 ?_ | refine ba1 ?_ _)); refine bp1 (cs := #[.int .i64 0, .int .u8 0, .slice none 0 0, .string (⟨#[]⟩ : ByteArray), .int .u8 0, .string (⟨#[]⟩ : ByteArray)]) ?_ 0 _ rfl; (with_reducible repeat (first | refine bn1 ?_ _ | refine bd1 ?_ | refine ba1 ?_ _)); exact BK424.out) Tryd.underlying30 rfl (by kernel_rfl)) rfl ?_
    exact ⟨_, by first | rfl | (simp [errW_none, errW_some] <;> rfl) | (simp [*, errW_none, errW_some] <;> rfl), by (with_reducible repeat (first | apply Kd.S_alloc | apply Kd.S_drewN | apply Kd.S_drew)); exact Kd.S_mono (Kd.S_far (p := ⟨gb424, 5, none⟩) (Kd.S_far (p := ⟨gb424, 4, none⟩) (Kd.S_far (p := ⟨gb424, 3, none⟩) (Kd.S_far (p := ⟨gb424, 2, none⟩) (Kd.S_far (p := ⟨gb424, 1, none⟩) (Kd.S_far (p := ⟨gb424, 0, none⟩) (Kd.S_types HO432.out BK424.out (by decide)) (fun _ hk => hk.2) (.int .i64 t428)) (fun _ hk => hk.2) (.int .u8 t429)) (fun _ hk => hk.2) (.slice Ao10 t430.length co10)) (fun _ hk => hk.2) (.string t433)) (fun _ hk => hk.2) (.int .u8 t434)) (fun _ hk => hk.2) (.string t435)) (fun _ hk => trivial), by repeat (first | (with_reducible first | exact HB.out | apply la1 | apply ln1 | apply ld1 | refine ls1 ?_ GE424.out) | exact HB.out)⟩
  · rw [if_neg c2] at H
    have c2b0 : (a0 == 0) = false := beq_eq_false_iff_ne.mpr c2
    have c2b1 : (a0 != 0) = true := bne_iff_ne.mpr c2
    by_cases c11 : a0 = 62
    · rw [if_pos c11] at H
      have c11b0 : (a0 == 62) = true := beq_iff_eq.mpr c11
      have c11b1 : (a0 != 62) = false := bne_eq_false_iff_eq.mpr c11
      clear c11
      obtain ⟨y436, hy436⟩ : ∃ y_ : List Int, y_ = (([41, 1, 0] : List Int)) := ⟨_, rfl⟩
      replace H : ((clavierref19_nums.f k 62 99 y436).bind fun bt439 => (some (bt439.1, bt439.2.1, bt439.2.2.1, bt439.2.2.2.1, bt439.2.2.2.2.1, bt439.2.2.2.2.2))) = some (r1, r2, r3, r4, r5, r6) := by first | (rw [hy436]; with_reducible exact H) | (have H2_ := (Option.bind_some _ _).symm.trans H; rw [hy436]; with_reducible exact H2_) | (have H2_ := (Option.bind_some _ _).symm.trans H; with_reducible exact H2_) | with_reducible exact H | (rw [hy436]; exact H) | exact H
      have Ny436 := Aside0.mk hy436
      clear hy436
      replace H := Option.bind_eq_some_iff.mp H
      obtain ⟨⟨t439, t440, t441, t444, t445, t446⟩, A120, H⟩ := H
      replace H : (some (t439, t440, t441, t444, t445, t446)) = some (r1, r2, r3, r4, r5, r6) := H
      have A12 := Aside0.mk A120
      clear A120
      simp only [Option.some.injEq, Prod.mk.injEq] at H
      obtain ⟨rfl, rfl, rfl, rfl, rfl, rfl⟩ := H
      go_enter Tryd.func17, Tryd.ntmps17
      go_wp2_with (first | ((with_reducible refine gate_dst (N := 2) rfl ?_); refine box_event ?hg (N := 2) ?hd (cs := #[.int .i64 0, .int .u8 0, .slice none 0 0, .string (⟨#[]⟩ : ByteArray), .int .u8 0, .string (⟨#[]⟩ : ByteArray)]) (t := 30) ?hr ?_; (case hd => rfl); (case hg => rfl); (case hr => first | (go_simp; done) | (go_simp; rfl)); intro gb424 hg w13 hbox hb; have n0_ := Aside0.mk (below_step (by repeat (first | (with_reducible first | exact HB.out | apply la1 | apply ln1 | apply ld1) | exact HB.out)) hb); have n1_ := Aside0.mk (hbox); have n2_ := Aside0.mk ((by rw [hg]; exact (below_size (by repeat (first | (with_reducible first | exact HB.out | apply la1 | apply ln1 | apply ld1) | exact HB.out))) : w.heap.size ≤ gb424)); have n3_ := Aside0.mk ((by rw [hg]; exact (below_size (by repeat (first | (with_reducible first | exact HB.out | apply la1 | apply ln1 | apply ld1) | exact HB.out))) : w.heap.size ≤ gb424)); clear HB; have HB := n0_; have BK424 := n1_; have GW424 := n2_; have GE424 := n3_; clear n0_ n1_ n2_ n3_; clear hb hbox hg) | ((with_reducible refine gate_dst (N := 10) rfl ?_); refine Kd.R_lit (Kd.int .i64) _ 3 ?hg (N := 10) ?hd (xs := ([41, 1, 0] : List Int)) (inner := [.int .i64 41, .int .i64 1, .int .i64 0]) (ok := fun _ => True) (okp := fun _ => True) ?hr ?hp (fun _ hk => hk) trivial (Below.refl _ _) (Nat.le_refl _) (by simp) ?_; (case hd => rfl); (case hg => rfl); (case hr => first | (go_simp; done) | (go_simp; rfl)); (case hp => exact (Reps.one (show Kd.M (Kd.int .i64) _ _ _ 41 [.int .i64 41] from rfl) (Reps.one (show Kd.M (Kd.int .i64) _ _ _ 1 [.int .i64 1] from rfl) (Reps.one (show Kd.M (Kd.int .i64) _ _ _ 0 [.int .i64 0] from rfl) (Reps.none _ _))))); intro v437 w14 ho15 hb hg_ hnew_; clear hg_ hnew_; (first | rw [← Ny436.out] at ho15 | (simp only [Int.reduceToNat] at ho15; rw [← Ny436.out] at ho15)); have n0_ := Aside0.mk (Kd.R_lower ho15 (below_size (by repeat (first | (with_reducible first | exact HB.out | apply la1 | apply ln1 | apply ld1 | refine ls1 ?_ GE424.out) | exact HB.out)))); have n1_ := Aside0.mk (bb1 (g := gb424) (o := .cells #[.int .i64 0, .int .u8 0, .slice none 0 0, .string (⟨#[]⟩ : ByteArray), .int .u8 0, .string (⟨#[]⟩ : ByteArray)] 30 (0, 0)) (by (with_reducible repeat (first | refine bn1 ?_ _ | refine bd1 ?_ | refine ba1 ?_ _)); exact BK424.out) hb); have n2_ := Aside0.mk (below_step (by repeat (first | (with_reducible first | exact HB.out | apply la1 | apply ln1 | apply ld1 | refine ls1 ?_ GE424.out) | exact HB.out)) hb); clear BK424; clear HB; have HO438 := n0_; have BK424 := n1_; have HB := n2_; clear n0_ n1_ n2_; clear hb ho15; obtain ⟨Ao16, co16, eo16⟩ := Kd.R_slice HO438.out; subst eo16) | ((with_reducible refine gate_callee (f := 31) rfl ?_); refine goesL_ (some 11) rfl rfl Tryd.func31 (by kernel_rfl) rfl #[.int .u8 62, .int .u8 99, .slice Ao16 y436.length co16] rfl (by (try simp only [List.map_toArray, List.map_cons, List.map_nil]); first | done | rfl | (simp only [List.length_drop, List.length_take]; rfl)) ?_; (with_reducible refine (clavierref19_nums.calls k 62 99 _ _ y436 t439 t440 t441 t444 t445 t446 _ ?side1 ?side2 A12.out).mono ?_); (case side1 => repeat (first | exact (Kd.R_reads' HO438.out).2.2 | (with_reducible refine Kd.C_alloc ?_ _) | (with_reducible refine Kd.C_drewN ?_ _) | (with_reducible refine Kd.C_drew ?_))); (case side2 => exact (Kd.R_reads' HO438.out).2.1); rintro e w17 ⟨v442, rfl, ho0, hb⟩; refine ⟨_, rfl, ?_⟩; have n0_ := Aside0.mk (Kd.R_below (by (with_reducible repeat (first | apply Kd.R_alloc | apply Kd.R_drewN | apply Kd.R_drew)); exact HO438.out) hb); have n1_ := Aside0.mk (Kd.S_lower (Kd.S_new' ho0 (Kd.R_lt (by (with_reducible repeat (first | apply Kd.R_alloc | apply Kd.R_drewN | apply Kd.R_drew)); exact HO438.out))) (below_size (by repeat (first | (with_reducible first | exact HB.out | apply la1 | apply ln1 | apply ld1 | refine ls1 ?_ GE424.out) | exact HB.out)))); have n2_ := Aside0.mk (bb1 (g := gb424) (o := .cells #[.int .i64 0, .int .u8 0, .slice none 0 0, .string (⟨#[]⟩ : ByteArray), .int .u8 0, .string (⟨#[]⟩ : ByteArray)] 30 (0, 0)) (by (with_reducible repeat (first | refine bn1 ?_ _ | refine bd1 ?_ | refine ba1 ?_ _)); exact BK424.out) hb); have n3_ := Aside0.mk (below_step (by repeat (first | (with_reducible first | exact HB.out | apply la1 | apply ln1 | apply ld1 | refine ls1 ?_ GE424.out) | exact HB.out)) hb); clear HO438; clear BK424; clear HB; have HO438 := n0_; have HO443 := n1_; have BK424 := n2_; have HB := n3_; clear n0_ n1_ n2_ n3_; (try clear hb); (try clear hb2); (try clear hk); (try clear hi); (try clear ho0); have hcz18_0 : w17.cell? ⟨gb424, 0, none⟩ = some (.int .i64 0) := (bc1 BK424.out 0).trans rfl; have hcz18_1 : w17.cell? ⟨gb424, 1, none⟩ = some (.int .u8 0) := (bc1 BK424.out 1).trans rfl; have hcz18_2 : w17.cell? ⟨gb424, 2, none⟩ = some (.slice none 0 0) := (bc1 BK424.out 2).trans rfl; have hcz18_3 : w17.cell? ⟨gb424, 3, none⟩ = some (.string (⟨#[]⟩ : ByteArray)) := (bc1 BK424.out 3).trans rfl; have hcz18_4 : w17.cell? ⟨gb424, 4, none⟩ = some (.int .u8 0) := (bc1 BK424.out 4).trans rfl; have hcz18_5 : w17.cell? ⟨gb424, 5, none⟩ = some (.string (⟨#[]⟩ : ByteArray)) := (bc1 BK424.out 5).trans rfl; have hfz18_0 := bz1 BK424.out 0; have hfz18_1 := bz1 BK424.out 1; have hfz18_2 := bz1 BK424.out 2; have hfz18_3 := bz1 BK424.out 3; have hfz18_4 := bz1 BK424.out 4; have hfz18_5 := bz1 BK424.out 5; obtain ⟨Ao19, co19, eo19⟩ := Kd.S_slice HO443.out; subst eo19))
      refine bodyPost_ret (results_cell_row rfl _ _ gb424 30 #[.int .i64 t439, .int .u8 t440, .slice Ao19 t441.length co19, .string t444, .int .u8 t445, .string t446] (0, 0) _ rfl (by (with_reducible repeat (first | refine bn1 ?_ _ | refine bd1 ?_ | refine ba1 ?_ _)); refine bp1 (cs := #[.int .i64 t439, .int .u8 t440, .slice Ao19 t441.length co19, .string t444, .int .u8 t445, .string (⟨#[]⟩ : ByteArray)]) ?_ 5 _ rfl; (with_reducible repeat (first | refine bn1 ?_ _ | refine bd1 ?_ | refine ba1 ?_ _)); refine bp1 (cs := #[.int .i64 t439, .int .u8 t440, .slice Ao19 t441.length co19, .string t444, .int .u8 0, .string (⟨#[]⟩ : ByteArray)]) ?_ 4 _ rfl; (with_reducible repeat (first | refine bn1 ?_ _ | refine bd1 ?_ | refine ba1 ?_ _)); refine bp1 (cs := #[.int .i64 t439, .int .u8 t440, .slice Ao19 t441.length co19, .string (⟨#[]⟩ : ByteArray), .int .u8 0, .string (⟨#[]⟩ : ByteArray)]) ?_ 3 _ rfl; (with_reducible repeat (first | refine bn1 ?_ _ | refine bd1 ?_ | refine ba1 ?_ _)); refine bp1 (cs := #[.int .i64 t439, .int .u8 t440, .slice none 0 0, .string (⟨#[]⟩ : ByteArray), .int .u8 0, .string (⟨#[]⟩ : ByteArray)]) ?_ 2 _ rfl; (with_reducible repeat (first | refine bn1 ?_ _ | refine bd1 ?_ | refine ba1 ?_ _)); refine bp1 (cs := #[.int .i64 t439, .int .u8 0, .slice none 0 0, .string (⟨#[]⟩ : ByteArray), .int .u8 0, .string (⟨#[]⟩ : ByteArray)]) ?_ 1 _ rfl; (with_reducible repeat (first | refine bn1 ?_ _ | refine bd1 ?_ | refine ba1 ?_ _)); refine bp1 (cs := #[.int .i64 0, .int .u8 0, .slice none 0 0, .string (⟨#[]⟩ : ByteArray), .int .u8 0, .string (⟨#[]⟩ : ByteArray)]) ?_ 0 _ rfl; (with_reducible repeat (first | refine bn1 ?_ _ | refine bd1 ?_ | refine ba1 ?_ _)); exact BK424.out) Tryd.underlying30 rfl (by kernel_rfl)) rfl ?_
      exact ⟨_, by first | rfl | (simp [errW_none, errW_some] <;> rfl) | (simp [*, errW_none, errW_some] <;> rfl), by (with_reducible repeat (first | apply Kd.S_alloc | apply Kd.S_drewN | apply Kd.S_drew)); exact Kd.S_mono (Kd.S_far (p := ⟨gb424, 5, none⟩) (Kd.S_far (p := ⟨gb424, 4, none⟩) (Kd.S_far (p := ⟨gb424, 3, none⟩) (Kd.S_far (p := ⟨gb424, 2, none⟩) (Kd.S_far (p := ⟨gb424, 1, none⟩) (Kd.S_far (p := ⟨gb424, 0, none⟩) (Kd.S_types HO443.out BK424.out (by decide)) (fun _ hk => hk.2) (.int .i64 t439)) (fun _ hk => hk.2) (.int .u8 t440)) (fun _ hk => hk.2) (.slice Ao19 t441.length co19)) (fun _ hk => hk.2) (.string t444)) (fun _ hk => hk.2) (.int .u8 t445)) (fun _ hk => hk.2) (.string t446)) (fun _ hk => trivial), by repeat (first | (with_reducible first | exact HB.out | apply la1 | apply ln1 | apply ld1 | refine ls1 ?_ GE424.out) | exact HB.out)⟩
    · rw [if_neg c11] at H
      have c11b0 : (a0 == 62) = false := beq_eq_false_iff_ne.mpr c11
      have c11b1 : (a0 != 62) = true := bne_iff_ne.mpr c11
      by_cases c20 : a0 = 61
      · rw [if_pos c20] at H
        have c20b0 : (a0 == 61) = true := beq_iff_eq.mpr c20
        have c20b1 : (a0 != 61) = false := bne_eq_false_iff_eq.mpr c20
        clear c20
        simp only [Option.some.injEq, Prod.mk.injEq] at H
        obtain ⟨rfl, rfl, rfl, rfl, rfl, rfl⟩ := H
        go_enter Tryd.func17, Tryd.ntmps17
        go_wp2_with (first | ((with_reducible refine gate_dst (N := 2) rfl ?_); refine box_event ?hg (N := 2) ?hd (cs := #[.int .i64 0, .int .u8 0, .slice none 0 0, .string (⟨#[]⟩ : ByteArray), .int .u8 0, .string (⟨#[]⟩ : ByteArray)]) (t := 30) ?hr ?_; (case hd => rfl); (case hg => rfl); (case hr => first | (go_simp; done) | (go_simp; rfl)); intro gb424 hg w21 hbox hb; have n0_ := Aside0.mk (below_step (by repeat (first | (with_reducible first | exact HB.out | apply la1 | apply ln1 | apply ld1) | exact HB.out)) hb); have n1_ := Aside0.mk (hbox); have n2_ := Aside0.mk ((by rw [hg]; exact (below_size (by repeat (first | (with_reducible first | exact HB.out | apply la1 | apply ln1 | apply ld1) | exact HB.out))) : w.heap.size ≤ gb424)); have n3_ := Aside0.mk ((by rw [hg]; exact (below_size (by repeat (first | (with_reducible first | exact HB.out | apply la1 | apply ln1 | apply ld1) | exact HB.out))) : w.heap.size ≤ gb424)); clear HB; have HB := n0_; have BK424 := n1_; have GW424 := n2_; have GE424 := n3_; clear n0_ n1_ n2_ n3_; clear hb hbox hg; have hcz22_0 : w21.cell? ⟨gb424, 0, none⟩ = some (.int .i64 0) := (bc1 BK424.out 0).trans rfl; have hcz22_1 : w21.cell? ⟨gb424, 1, none⟩ = some (.int .u8 0) := (bc1 BK424.out 1).trans rfl; have hcz22_2 : w21.cell? ⟨gb424, 2, none⟩ = some (.slice none 0 0) := (bc1 BK424.out 2).trans rfl; have hcz22_3 : w21.cell? ⟨gb424, 3, none⟩ = some (.string (⟨#[]⟩ : ByteArray)) := (bc1 BK424.out 3).trans rfl; have hcz22_4 : w21.cell? ⟨gb424, 4, none⟩ = some (.int .u8 0) := (bc1 BK424.out 4).trans rfl; have hcz22_5 : w21.cell? ⟨gb424, 5, none⟩ = some (.string (⟨#[]⟩ : ByteArray)) := (bc1 BK424.out 5).trans rfl; have hfz22_0 := bz1 BK424.out 0; have hfz22_1 := bz1 BK424.out 1; have hfz22_2 := bz1 BK424.out 2; have hfz22_3 := bz1 BK424.out 3; have hfz22_4 := bz1 BK424.out 4; have hfz22_5 := bz1 BK424.out 5))
        refine bodyPost_ret (results_cell_row rfl _ _ gb424 30 #[.int .i64 3, .int .u8 0, .slice none 0 0, .string (⟨#[33]⟩ : ByteArray), .int .u8 124, .string (⟨#[48, 48, 48, 48, 48, 48, 48, 48]⟩ : ByteArray)] (0, 0) _ rfl (by (with_reducible repeat (first | refine bn1 ?_ _ | refine bd1 ?_ | refine ba1 ?_ _)); refine bp1 (cs := #[.int .i64 3, .int .u8 0, .slice none 0 0, .string (⟨#[33]⟩ : ByteArray), .int .u8 124, .string (⟨#[]⟩ : ByteArray)]) ?_ 5 _ rfl; (with_reducible repeat (first | refine bn1 ?_ _ | refine bd1 ?_ | refine ba1 ?_ _)); refine bp1 (cs := #[.int .i64 3, .int .u8 0, .slice none 0 0, .string (⟨#[33]⟩ : ByteArray), .int .u8 0, .string (⟨#[]⟩ : ByteArray)]) ?_ 4 _ rfl; (with_reducible repeat (first | refine bn1 ?_ _ | refine bd1 ?_ | refine ba1 ?_ _)); refine bp1 (cs := #[.int .i64 3, .int .u8 0, .slice none 0 0, .string (⟨#[]⟩ : ByteArray), .int .u8 0, .string (⟨#[]⟩ : ByteArray)]) ?_ 3 _ rfl; (with_reducible repeat (first | refine bn1 ?_ _ | refine bd1 ?_ | refine ba1 ?_ _)); refine bp1 (cs := #[.int .i64 3, .int .u8 0, .slice none 0 0, .string (⟨#[]⟩ : ByteArray), .int .u8 0, .string (⟨#[]⟩ : ByteArray)]) ?_ 2 _ rfl; (with_reducible repeat (first | refine bn1 ?_ _ | refine bd1 ?_ | refine ba1 ?_ _)); refine bp1 (cs := #[.int .i64 3, .int .u8 0, .slice none 0 0, .string (⟨#[]⟩ : ByteArray), .int .u8 0, .string (⟨#[]⟩ : ByteArray)]) ?_ 1 _ rfl; (with_reducible repeat (first | refine bn1 ?_ _ | refine bd1 ?_ | refine ba1 ?_ _)); refine bp1 (cs := #[.int .i64 0, .int .u8 0, .slice none 0 0, .string (⟨#[]⟩ : ByteArray), .int .u8 0, .string (⟨#[]⟩ : ByteArray)]) ?_ 0 _ rfl; (with_reducible repeat (first | refine bn1 ?_ _ | refine bd1 ?_ | refine ba1 ?_ _)); exact BK424.out) Tryd.underlying30 rfl (by kernel_rfl)) rfl ?_
        exact ⟨_, by first | rfl | (simp [errW_none, errW_some] <;> rfl) | (simp [*, errW_none, errW_some] <;> rfl), by first | exact Kd.S_nil _ _ _ _ _ | exact Kd.N_nil _ _ _ _ _ | exact Kd.V_nil _ _ _ _ _ | exact Kd.Q_nil _ _ _ _ _ | exact Kd.R_nil _ _ _ _ _, by repeat (first | (with_reducible first | exact HB.out | apply la1 | apply ln1 | apply ld1 | refine ls1 ?_ GE424.out) | exact HB.out)⟩
      · rw [if_neg c20] at H
        have c20b0 : (a0 == 61) = false := beq_eq_false_iff_ne.mpr c20
        have c20b1 : (a0 != 61) = true := bne_iff_ne.mpr c20
        simp only [Option.some.injEq, Prod.mk.injEq] at H
        obtain ⟨rfl, rfl, rfl, rfl, rfl, rfl⟩ := H
        go_enter Tryd.func17, Tryd.ntmps17
        go_wp2_with (first | ((with_reducible refine gate_dst (N := 2) rfl ?_); refine box_event ?hg (N := 2) ?hd (cs := #[.int .i64 0, .int .u8 0, .slice none 0 0, .string (⟨#[]⟩ : ByteArray), .int .u8 0, .string (⟨#[]⟩ : ByteArray)]) (t := 30) ?hr ?_; (case hd => rfl); (case hg => rfl); (case hr => first | (go_simp; done) | (go_simp; rfl)); intro gb424 hg w23 hbox hb; have n0_ := Aside0.mk (below_step (by repeat (first | (with_reducible first | exact HB.out | apply la1 | apply ln1 | apply ld1) | exact HB.out)) hb); have n1_ := Aside0.mk (hbox); have n2_ := Aside0.mk ((by rw [hg]; exact (below_size (by repeat (first | (with_reducible first | exact HB.out | apply la1 | apply ln1 | apply ld1) | exact HB.out))) : w.heap.size ≤ gb424)); have n3_ := Aside0.mk ((by rw [hg]; exact (below_size (by repeat (first | (with_reducible first | exact HB.out | apply la1 | apply ln1 | apply ld1) | exact HB.out))) : w.heap.size ≤ gb424)); clear HB; have HB := n0_; have BK424 := n1_; have GW424 := n2_; have GE424 := n3_; clear n0_ n1_ n2_ n3_; clear hb hbox hg; have hcz24_0 : w23.cell? ⟨gb424, 0, none⟩ = some (.int .i64 0) := (bc1 BK424.out 0).trans rfl; have hcz24_1 : w23.cell? ⟨gb424, 1, none⟩ = some (.int .u8 0) := (bc1 BK424.out 1).trans rfl; have hcz24_2 : w23.cell? ⟨gb424, 2, none⟩ = some (.slice none 0 0) := (bc1 BK424.out 2).trans rfl; have hcz24_3 : w23.cell? ⟨gb424, 3, none⟩ = some (.string (⟨#[]⟩ : ByteArray)) := (bc1 BK424.out 3).trans rfl; have hcz24_4 : w23.cell? ⟨gb424, 4, none⟩ = some (.int .u8 0) := (bc1 BK424.out 4).trans rfl; have hcz24_5 : w23.cell? ⟨gb424, 5, none⟩ = some (.string (⟨#[]⟩ : ByteArray)) := (bc1 BK424.out 5).trans rfl; have hfz24_0 := bz1 BK424.out 0; have hfz24_1 := bz1 BK424.out 1; have hfz24_2 := bz1 BK424.out 2; have hfz24_3 := bz1 BK424.out 3; have hfz24_4 := bz1 BK424.out 4; have hfz24_5 := bz1 BK424.out 5))
        refine bodyPost_ret (results_cell_row rfl _ _ gb424 30 #[.int .i64 0, .int .u8 0, .slice none 0 0, .string (⟨#[]⟩ : ByteArray), .int .u8 0, .string (⟨#[]⟩ : ByteArray)] (0, 0) _ rfl (by (with_reducible repeat (first | refine bn1 ?_ _ | refine bd1 ?_ | refine ba1 ?_ _)); refine bp1 (cs := #[.int .i64 0, .int .u8 0, .slice none 0 0, .string (⟨#[]⟩ : ByteArray), .int .u8 0, .string (⟨#[]⟩ : ByteArray)]) ?_ 5 _ rfl; (with_reducible repeat (first | refine bn1 ?_ _ | refine bd1 ?_ | refine ba1 ?_ _)); refine bp1 (cs := #[.int .i64 0, .int .u8 0, .slice none 0 0, .string (⟨#[]⟩ : ByteArray), .int .u8 0, .string (⟨#[]⟩ : ByteArray)]) ?_ 4 _ rfl; (with_reducible repeat (first | refine bn1 ?_ _ | refine bd1 ?_ | refine ba1 ?_ _)); refine bp1 (cs := #[.int .i64 0, .int .u8 0, .slice none 0 0, .string (⟨#[]⟩ : ByteArray), .int .u8 0, .string (⟨#[]⟩ : ByteArray)]) ?_ 3 _ rfl; (with_reducible repeat (first | refine bn1 ?_ _ | refine bd1 ?_ | refine ba1 ?_ _)); refine bp1 (cs := #[.int .i64 0, .int .u8 0, .slice none 0 0, .string (⟨#[]⟩ : ByteArray), .int .u8 0, .string (⟨#[]⟩ : ByteArray)]) ?_ 2 _ rfl; (with_reducible repeat (first | refine bn1 ?_ _ | refine bd1 ?_ | refine ba1 ?_ _)); refine bp1 (cs := #[.int .i64 0, .int .u8 0, .slice none 0 0, .string (⟨#[]⟩ : ByteArray), .int .u8 0, .string (⟨#[]⟩ : ByteArray)]) ?_ 1 _ rfl; (with_reducible repeat (first | refine bn1 ?_ _ | refine bd1 ?_ | refine ba1 ?_ _)); refine bp1 (cs := #[.int .i64 0, .int .u8 0, .slice none 0 0, .string (⟨#[]⟩ : ByteArray), .int .u8 0, .string (⟨#[]⟩ : ByteArray)]) ?_ 0 _ rfl; (with_reducible repeat (first | refine bn1 ?_ _ | refine bd1 ?_ | refine ba1 ?_ _)); exact BK424.out) Tryd.underlying30 rfl (by kernel_rfl)) rfl ?_
        exact ⟨_, by first | rfl | (simp [errW_none, errW_some] <;> rfl) | (simp [*, errW_none, errW_some] <;> rfl), by first | exact Kd.S_nil _ _ _ _ _ | exact Kd.N_nil _ _ _ _ _ | exact Kd.V_nil _ _ _ _ _ | exact Kd.Q_nil _ _ _ _ _ | exact Kd.R_nil _ _ _ _ _, by repeat (first | (with_reducible first | exact HB.out | apply la1 | apply ln1 | apply ld1 | refine ls1 ?_ GE424.out) | exact HB.out)⟩
def clavierref19_Flags.f (k : Nat) (a0 : Int) : Option (Int × Int × (List (List Int)) × ByteArray × Int × ByteArray) := (clavierref08_Flags.f a0).bind fun t464 => ((clavierref19_nums.f k 63 117 (([t464] : List Int))).bind fun bt468 => (some (bt468.1, bt468.2.1, bt468.2.2.1, bt468.2.2.2.1, bt468.2.2.2.2.1, bt468.2.2.2.2.2)))
theorem clavierref19_Flags.mono : ∀ a0 k, LeO (clavierref19_Flags.f k a0) (clavierref19_Flags.f (k + 1) a0) := by
  intro a0 k
  unfold clavierref19_Flags.f
  repeat' first
      | (with_reducible exact clavierref19_nums.mono _ _ _ _)
      | (with_reducible exact LeO.refl _)
      | (with_reducible exact LeO.none _)
      | (with_reducible refine LeO.ite ?_ ?_)
      | (with_reducible refine LeO.bind ?_ (fun _ => ?_))
      | exact clavierref19_nums.mono _ _ _ _
      | exact LeO.none _
      | refine LeO.ite ?_ ?_
      | refine LeO.bind ?_ (fun _ => ?_)
set_option maxHeartbeats 8000000 in
set_option maxRecDepth 100000 in
theorem clavierref19_Flags.calls (k : Nat) (a0 : Int) (r1 : Int) (r2 : Int) (r3 : List (List Int)) (r4 : ByteArray) (r5 : Int) (r6 : ByteArray) (w : World) (h : clavierref19_Flags.f k a0 = some (r1, r2, r3, r4, r5, r6)) :
    Calls Tryd.prog 21 #[.int .i64 a0] w fun e w' => ∃ v2_ : Value, e = .returned (.agg #[.int .i64 r1, .int .u8 r2, v2_, .string r4, .int .u8 r5, .string r6]) ∧ Kd.S (Kd.slice 3 (Kd.int .i64)) 52 w' w.heap.size (fun _ => True) v2_ r3 ∧ Below w.heap.size w w' := by
  have hu30 := Tryd.underlying30
  have HB := Aside0.mk (Below.refl w.heap.size w)
  have H : ((clavierref08_Flags.f a0).bind fun t464 => ((clavierref19_nums.f k 63 117 (([t464] : List Int))).bind fun bt468 => (some (bt468.1, bt468.2.1, bt468.2.2.1, bt468.2.2.2.1, bt468.2.2.2.2.1, bt468.2.2.2.2.2)))) = some (r1, r2, r3, r4, r5, r6) := h
  clear h
  replace H := Option.bind_eq_some_iff.mp H
  obtain ⟨t464, A20, H⟩ := H
  replace H : ((clavierref19_nums.f k 63 117 (([t464] : List Int))).bind fun bt468 => (some (bt468.1, bt468.2.1, bt468.2.2.1, bt468.2.2.2.1, bt468.2.2.2.2.1, bt468.2.2.2.2.2))) = some (r1, r2, r3, r4, r5, r6) := H
  have A2 := Aside0.mk A20
  clear A20
  obtain ⟨y465, hy465⟩ : ∃ y_ : List Int, y_ = (([t464] : List Int)) := ⟨_, rfl⟩
  replace H : ((clavierref19_nums.f k 63 117 y465).bind fun bt468 => (some (bt468.1, bt468.2.1, bt468.2.2.1, bt468.2.2.2.1, bt468.2.2.2.2.1, bt468.2.2.2.2.2))) = some (r1, r2, r3, r4, r5, r6) := by first | (rw [hy465]; with_reducible exact H) | (have H2_ := (Option.bind_some _ _).symm.trans H; rw [hy465]; with_reducible exact H2_) | (have H2_ := (Option.bind_some _ _).symm.trans H; with_reducible exact H2_) | with_reducible exact H | (rw [hy465]; exact H) | exact H
  have Ny465 := Aside0.mk hy465
  clear hy465
  replace H := Option.bind_eq_some_iff.mp H
  obtain ⟨⟨t468, t469, t470, t473, t474, t475⟩, A30, H⟩ := H
  replace H : (some (t468, t469, t470, t473, t474, t475)) = some (r1, r2, r3, r4, r5, r6) := H
  have A3 := Aside0.mk A30
  clear A30
  simp only [Option.some.injEq, Prod.mk.injEq] at H
  obtain ⟨rfl, rfl, rfl, rfl, rfl, rfl⟩ := H
  go_enter Tryd.func21, Tryd.ntmps21
  go_wp2_with (first | ((with_reducible refine gate_dst (N := 2) rfl ?_); refine box_event ?hg (N := 2) ?hd (cs := #[.int .i64 0, .int .u8 0, .slice none 0 0, .string (⟨#[]⟩ : ByteArray), .int .u8 0, .string (⟨#[]⟩ : ByteArray)]) (t := 30) ?hr ?_; (case hd => rfl); (case hg => rfl); (case hr => first | (go_simp; done) | (go_simp; rfl)); intro gb463 hg w4 hbox hb; have n0_ := Aside0.mk (below_step (by repeat (first | (with_reducible first | exact HB.out | apply la1 | apply ln1 | apply ld1) | exact HB.out)) hb); have n1_ := Aside0.mk (hbox); have n2_ := Aside0.mk ((by rw [hg]; exact (below_size (by repeat (first | (with_reducible first | exact HB.out | apply la1 | apply ln1 | apply ld1) | exact HB.out))) : w.heap.size ≤ gb463)); have n3_ := Aside0.mk ((by rw [hg]; exact (below_size (by repeat (first | (with_reducible first | exact HB.out | apply la1 | apply ln1 | apply ld1) | exact HB.out))) : w.heap.size ≤ gb463)); clear HB; have HB := n0_; have BK463 := n1_; have GW463 := n2_; have GE463 := n3_; clear n0_ n1_ n2_ n3_; clear hb hbox hg) | ((with_reducible refine gate_callee (f := 48) rfl ?_); refine goesL_ (some 4) rfl rfl Tryd.func48 (by kernel_rfl) rfl #[.int .i64 a0] rfl (by (try simp only [List.map_toArray, List.map_cons, List.map_nil]); first | done | rfl | (simp only [List.length_drop, List.length_take]; rfl)) ?_; (with_reducible refine (clavierref08_Flags.calls a0 t464 _ A2.out).mono ?_); rintro e w5 ⟨rfl, hb⟩; refine ⟨_, rfl, ?_⟩; have n0_ := Aside0.mk (bb1 (g := gb463) (o := .cells #[.int .i64 0, .int .u8 0, .slice none 0 0, .string (⟨#[]⟩ : ByteArray), .int .u8 0, .string (⟨#[]⟩ : ByteArray)] 30 (0, 0)) (by (with_reducible repeat (first | refine bn1 ?_ _ | refine bd1 ?_ | refine ba1 ?_ _)); exact BK463.out) hb); have n1_ := Aside0.mk (below_step (by repeat (first | (with_reducible first | exact HB.out | apply la1 | apply ln1 | apply ld1 | refine ls1 ?_ GE463.out) | exact HB.out)) hb); clear BK463; clear HB; have BK463 := n0_; have HB := n1_; clear n0_ n1_; (try clear hb); (try clear hb2); (try clear hk); (try clear hi)) | ((with_reducible refine gate_dst (N := 5) rfl ?_); refine Kd.R_lit (Kd.int .i64) _ 3 ?hg (N := 5) ?hd (xs := ([t464] : List Int)) (inner := [.int .i64 t464]) (ok := fun _ => True) (okp := fun _ => True) ?hr ?hp (fun _ hk => hk) trivial (Below.refl _ _) (Nat.le_refl _) (by simp) ?_; (case hd => rfl); (case hg => rfl); (case hr => first | (go_simp; done) | (go_simp; rfl)); (case hp => exact (Reps.one (show Kd.M (Kd.int .i64) _ _ _ t464 [.int .i64 t464] from rfl) (Reps.none _ _))); intro v466 w6 ho7 hb hg_ hnew_; clear hg_ hnew_; (first | rw [← Ny465.out] at ho7 | (simp only [Int.reduceToNat] at ho7; rw [← Ny465.out] at ho7)); have n0_ := Aside0.mk (Kd.R_lower ho7 (below_size (by repeat (first | (with_reducible first | exact HB.out | apply la1 | apply ln1 | apply ld1 | refine ls1 ?_ GE463.out) | exact HB.out)))); have n1_ := Aside0.mk (bb1 (g := gb463) (o := .cells #[.int .i64 0, .int .u8 0, .slice none 0 0, .string (⟨#[]⟩ : ByteArray), .int .u8 0, .string (⟨#[]⟩ : ByteArray)] 30 (0, 0)) (by (with_reducible repeat (first | refine bn1 ?_ _ | refine bd1 ?_ | refine ba1 ?_ _)); exact BK463.out) hb); have n2_ := Aside0.mk (below_step (by repeat (first | (with_reducible first | exact HB.out | apply la1 | apply ln1 | apply ld1 | refine ls1 ?_ GE463.out) | exact HB.out)) hb); clear BK463; clear HB; have HO467 := n0_; have BK463 := n1_; have HB := n2_; clear n0_ n1_ n2_; clear hb ho7; obtain ⟨Ao8, co8, eo8⟩ := Kd.R_slice HO467.out; subst eo8) | ((with_reducible refine gate_callee (f := 31) rfl ?_); refine goesL_ (some 6) rfl rfl Tryd.func31 (by kernel_rfl) rfl #[.int .u8 63, .int .u8 117, .slice Ao8 y465.length co8] rfl (by (try simp only [List.map_toArray, List.map_cons, List.map_nil]); first | done | rfl | (simp only [List.length_drop, List.length_take]; rfl)) ?_; (with_reducible refine (clavierref19_nums.calls k 63 117 _ _ y465 t468 t469 t470 t473 t474 t475 _ ?side1 ?side2 A3.out).mono ?_); (case side1 => repeat (first | exact (Kd.R_reads' HO467.out).2.2 | (with_reducible refine Kd.C_alloc ?_ _) | (with_reducible refine Kd.C_drewN ?_ _) | (with_reducible refine Kd.C_drew ?_))); (case side2 => exact (Kd.R_reads' HO467.out).2.1); rintro e w9 ⟨v471, rfl, ho0, hb⟩; refine ⟨_, rfl, ?_⟩; have n0_ := Aside0.mk (Kd.R_below (by (with_reducible repeat (first | apply Kd.R_alloc | apply Kd.R_drewN | apply Kd.R_drew)); exact HO467.out) hb); have n1_ := Aside0.mk (Kd.S_lower (Kd.S_new' ho0 (Kd.R_lt (by (with_reducible repeat (first | apply Kd.R_alloc | apply Kd.R_drewN | apply Kd.R_drew)); exact HO467.out))) (below_size (by repeat (first | (with_reducible first | exact HB.out | apply la1 | apply ln1 | apply ld1 | refine ls1 ?_ GE463.out) | exact HB.out)))); have n2_ := Aside0.mk (bb1 (g := gb463) (o := .cells #[.int .i64 0, .int .u8 0, .slice none 0 0, .string (⟨#[]⟩ : ByteArray), .int .u8 0, .string (⟨#[]⟩ : ByteArray)] 30 (0, 0)) (by (with_reducible repeat (first | refine bn1 ?_ _ | refine bd1 ?_ | refine ba1 ?_ _)); exact BK463.out) hb); have n3_ := Aside0.mk (below_step (by repeat (first | (with_reducible first | exact HB.out | apply la1 | apply ln1 | apply ld1 | refine ls1 ?_ GE463.out) | exact HB.out)) hb); clear HO467; clear BK463; clear HB; have HO467 := n0_; have HO472 := n1_; have BK463 := n2_; have HB := n3_; clear n0_ n1_ n2_ n3_; (try clear hb); (try clear hb2); (try clear hk); (try clear hi); (try clear ho0); have hcz10_0 : w9.cell? ⟨gb463, 0, none⟩ = some (.int .i64 0) := (bc1 BK463.out 0).trans rfl; have hcz10_1 : w9.cell? ⟨gb463, 1, none⟩ = some (.int .u8 0) := (bc1 BK463.out 1).trans rfl; have hcz10_2 : w9.cell? ⟨gb463, 2, none⟩ = some (.slice none 0 0) := (bc1 BK463.out 2).trans rfl; have hcz10_3 : w9.cell? ⟨gb463, 3, none⟩ = some (.string (⟨#[]⟩ : ByteArray)) := (bc1 BK463.out 3).trans rfl; have hcz10_4 : w9.cell? ⟨gb463, 4, none⟩ = some (.int .u8 0) := (bc1 BK463.out 4).trans rfl; have hcz10_5 : w9.cell? ⟨gb463, 5, none⟩ = some (.string (⟨#[]⟩ : ByteArray)) := (bc1 BK463.out 5).trans rfl; have hfz10_0 := bz1 BK463.out 0; have hfz10_1 := bz1 BK463.out 1; have hfz10_2 := bz1 BK463.out 2; have hfz10_3 := bz1 BK463.out 3; have hfz10_4 := bz1 BK463.out 4; have hfz10_5 := bz1 BK463.out 5; obtain ⟨Ao11, co11, eo11⟩ := Kd.S_slice HO472.out; subst eo11))
  refine bodyPost_ret (results_cell_row rfl _ _ gb463 30 #[.int .i64 t468, .int .u8 t469, .slice Ao11 t470.length co11, .string t473, .int .u8 t474, .string t475] (0, 0) _ rfl (by (with_reducible repeat (first | refine bn1 ?_ _ | refine bd1 ?_ | refine ba1 ?_ _)); refine bp1 (cs := #[.int .i64 t468, .int .u8 t469, .slice Ao11 t470.length co11, .string t473, .int .u8 t474, .string (⟨#[]⟩ : ByteArray)]) ?_ 5 _ rfl; (with_reducible repeat (first | refine bn1 ?_ _ | refine bd1 ?_ | refine ba1 ?_ _)); refine bp1 (cs := #[.int .i64 t468, .int .u8 t469, .slice Ao11 t470.length co11, .string t473, .int .u8 0, .string (⟨#[]⟩ : ByteArray)]) ?_ 4 _ rfl; (with_reducible repeat (first | refine bn1 ?_ _ | refine bd1 ?_ | refine ba1 ?_ _)); refine bp1 (cs := #[.int .i64 t468, .int .u8 t469, .slice Ao11 t470.length co11, .string (⟨#[]⟩ : ByteArray), .int .u8 0, .string (⟨#[]⟩ : ByteArray)]) ?_ 3 _ rfl; (with_reducible repeat (first | refine bn1 ?_ _ | refine bd1 ?_ | refine ba1 ?_ _)); refine bp1 (cs := #[.int .i64 t468, .int .u8 t469, .slice none 0 0, .string (⟨#[]⟩ : ByteArray), .int .u8 0, .string (⟨#[]⟩ : ByteArray)]) ?_ 2 _ rfl; (with_reducible repeat (first | refine bn1 ?_ _ | refine bd1 ?_ | refine ba1 ?_ _)); refine bp1 (cs := #[.int .i64 t468, .int .u8 0, .slice none 0 0, .string (⟨#[]⟩ : ByteArray), .int .u8 0, .string (⟨#[]⟩ : ByteArray)]) ?_ 1 _ rfl; (with_reducible repeat (first | refine bn1 ?_ _ | refine bd1 ?_ | refine ba1 ?_ _)); refine bp1 (cs := #[.int .i64 0, .int .u8 0, .slice none 0 0, .string (⟨#[]⟩ : ByteArray), .int .u8 0, .string (⟨#[]⟩ : ByteArray)]) ?_ 0 _ rfl; (with_reducible repeat (first | refine bn1 ?_ _ | refine bd1 ?_ | refine ba1 ?_ _)); exact BK463.out) Tryd.underlying30 rfl (by kernel_rfl)) rfl ?_
  exact ⟨_, by first | rfl | (simp [errW_none, errW_some] <;> rfl) | (simp [*, errW_none, errW_some] <;> rfl), by (with_reducible repeat (first | apply Kd.S_alloc | apply Kd.S_drewN | apply Kd.S_drew)); exact Kd.S_mono (Kd.S_far (p := ⟨gb463, 5, none⟩) (Kd.S_far (p := ⟨gb463, 4, none⟩) (Kd.S_far (p := ⟨gb463, 3, none⟩) (Kd.S_far (p := ⟨gb463, 2, none⟩) (Kd.S_far (p := ⟨gb463, 1, none⟩) (Kd.S_far (p := ⟨gb463, 0, none⟩) (Kd.S_types HO472.out BK463.out (by decide)) (fun _ hk => hk.2) (.int .i64 t468)) (fun _ hk => hk.2) (.int .u8 t469)) (fun _ hk => hk.2) (.slice Ao11 t470.length co11)) (fun _ hk => hk.2) (.string t473)) (fun _ hk => hk.2) (.int .u8 t474)) (fun _ hk => hk.2) (.string t475)) (fun _ hk => trivial), by repeat (first | (with_reducible first | exact HB.out | apply la1 | apply ln1 | apply ld1 | refine ls1 ?_ GE463.out) | exact HB.out)⟩
def clavierref19_Fine.f (k : Nat)  : Option (Int × Int × (List (List Int)) × ByteArray × Int × ByteArray) := (clavierref19_nums.f k 0 110 (([0] : List Int))).bind fun bt492 => (some (bt492.1, bt492.2.1, bt492.2.2.1, bt492.2.2.2.1, bt492.2.2.2.2.1, bt492.2.2.2.2.2))
theorem clavierref19_Fine.mono : ∀ k, LeO (clavierref19_Fine.f k ) (clavierref19_Fine.f (k + 1) ) := by
  intro  k
  unfold clavierref19_Fine.f
  repeat' first
      | (with_reducible exact clavierref19_nums.mono _ _ _ _)
      | (with_reducible exact LeO.refl _)
      | (with_reducible exact LeO.none _)
      | (with_reducible refine LeO.ite ?_ ?_)
      | (with_reducible refine LeO.bind ?_ (fun _ => ?_))
      | exact clavierref19_nums.mono _ _ _ _
      | exact LeO.none _
      | refine LeO.ite ?_ ?_
      | refine LeO.bind ?_ (fun _ => ?_)
set_option maxHeartbeats 8000000 in
set_option maxRecDepth 100000 in
theorem clavierref19_Fine.calls (k : Nat)  (r1 : Int) (r2 : Int) (r3 : List (List Int)) (r4 : ByteArray) (r5 : Int) (r6 : ByteArray) (w : World) (h : clavierref19_Fine.f k  = some (r1, r2, r3, r4, r5, r6)) :
    Calls Tryd.prog 23 #[] w fun e w' => ∃ v2_ : Value, e = .returned (.agg #[.int .i64 r1, .int .u8 r2, v2_, .string r4, .int .u8 r5, .string r6]) ∧ Kd.S (Kd.slice 3 (Kd.int .i64)) 52 w' w.heap.size (fun _ => True) v2_ r3 ∧ Below w.heap.size w w' := by
  have hu30 := Tryd.underlying30
  have HB := Aside0.mk (Below.refl w.heap.size w)
  have H : ((clavierref19_nums.f k 0 110 (([0] : List Int))).bind fun bt492 => (some (bt492.1, bt492.2.1, bt492.2.2.1, bt492.2.2.2.1, bt492.2.2.2.2.1, bt492.2.2.2.2.2))) = some (r1, r2, r3, r4, r5, r6) := h
  clear h
  obtain ⟨y489, hy489⟩ : ∃ y_ : List Int, y_ = (([0] : List Int)) := ⟨_, rfl⟩
  replace H : ((clavierref19_nums.f k 0 110 y489).bind fun bt492 => (some (bt492.1, bt492.2.1, bt492.2.2.1, bt492.2.2.2.1, bt492.2.2.2.2.1, bt492.2.2.2.2.2))) = some (r1, r2, r3, r4, r5, r6) := by first | (rw [hy489]; with_reducible exact H) | (have H2_ := (Option.bind_some _ _).symm.trans H; rw [hy489]; with_reducible exact H2_) | (have H2_ := (Option.bind_some _ _).symm.trans H; with_reducible exact H2_) | with_reducible exact H | (rw [hy489]; exact H) | exact H
  have Ny489 := Aside0.mk hy489
  clear hy489
  replace H := Option.bind_eq_some_iff.mp H
  obtain ⟨⟨t492, t493, t494, t497, t498, t499⟩, A10, H⟩ := H
  replace H : (some (t492, t493, t494, t497, t498, t499)) = some (r1, r2, r3, r4, r5, r6) := H
  have A1 := Aside0.mk A10
  clear A10
  simp only [Option.some.injEq, Prod.mk.injEq] at H
  obtain ⟨rfl, rfl, rfl, rfl, rfl, rfl⟩ := H
  go_enter Tryd.func23, Tryd.ntmps23
  go_wp2_with (first | ((with_reducible refine gate_dst (N := 0) rfl ?_); refine box_event ?hg (N := 0) ?hd (cs := #[.int .i64 0, .int .u8 0, .slice none 0 0, .string (⟨#[]⟩ : ByteArray), .int .u8 0, .string (⟨#[]⟩ : ByteArray)]) (t := 30) ?hr ?_; (case hd => rfl); (case hg => rfl); (case hr => first | (go_simp; done) | (go_simp; rfl)); intro gb488 hg w2 hbox hb; have n0_ := Aside0.mk (below_step (by repeat (first | (with_reducible first | exact HB.out | apply la1 | apply ln1 | apply ld1) | exact HB.out)) hb); have n1_ := Aside0.mk (hbox); have n2_ := Aside0.mk ((by rw [hg]; exact (below_size (by repeat (first | (with_reducible first | exact HB.out | apply la1 | apply ln1 | apply ld1) | exact HB.out))) : w.heap.size ≤ gb488)); have n3_ := Aside0.mk ((by rw [hg]; exact (below_size (by repeat (first | (with_reducible first | exact HB.out | apply la1 | apply ln1 | apply ld1) | exact HB.out))) : w.heap.size ≤ gb488)); clear HB; have HB := n0_; have BK488 := n1_; have GW488 := n2_; have GE488 := n3_; clear n0_ n1_ n2_ n3_; clear hb hbox hg) | ((with_reducible refine gate_dst (N := 1) rfl ?_); refine Kd.R_lit (Kd.int .i64) _ 3 ?hg (N := 1) ?hd (xs := ([0] : List Int)) (inner := [.int .i64 0]) (ok := fun _ => True) (okp := fun _ => True) ?hr ?hp (fun _ hk => hk) trivial (Below.refl _ _) (Nat.le_refl _) (by simp) ?_; (case hd => rfl); (case hg => rfl); (case hr => first | (go_simp; done) | (go_simp; rfl)); (case hp => exact (Reps.one (show Kd.M (Kd.int .i64) _ _ _ 0 [.int .i64 0] from rfl) (Reps.none _ _))); intro v490 w3 ho4 hb hg_ hnew_; clear hg_ hnew_; (first | rw [← Ny489.out] at ho4 | (simp only [Int.reduceToNat] at ho4; rw [← Ny489.out] at ho4)); have n0_ := Aside0.mk (Kd.R_lower ho4 (below_size (by repeat (first | (with_reducible first | exact HB.out | apply la1 | apply ln1 | apply ld1 | refine ls1 ?_ GE488.out) | exact HB.out)))); have n1_ := Aside0.mk (bb1 (g := gb488) (o := .cells #[.int .i64 0, .int .u8 0, .slice none 0 0, .string (⟨#[]⟩ : ByteArray), .int .u8 0, .string (⟨#[]⟩ : ByteArray)] 30 (0, 0)) (by (with_reducible repeat (first | refine bn1 ?_ _ | refine bd1 ?_ | refine ba1 ?_ _)); exact BK488.out) hb); have n2_ := Aside0.mk (below_step (by repeat (first | (with_reducible first | exact HB.out | apply la1 | apply ln1 | apply ld1 | refine ls1 ?_ GE488.out) | exact HB.out)) hb); clear BK488; clear HB; have HO491 := n0_; have BK488 := n1_; have HB := n2_; clear n0_ n1_ n2_; clear hb ho4; obtain ⟨Ao5, co5, eo5⟩ := Kd.R_slice HO491.out; subst eo5) | ((with_reducible refine gate_callee (f := 31) rfl ?_); refine goesL_ (some 2) rfl rfl Tryd.func31 (by kernel_rfl) rfl #[.int .u8 0, .int .u8 110, .slice Ao5 y489.length co5] rfl (by (try simp only [List.map_toArray, List.map_cons, List.map_nil]); first | done | rfl | (simp only [List.length_drop, List.length_take]; rfl)) ?_; (with_reducible refine (clavierref19_nums.calls k 0 110 _ _ y489 t492 t493 t494 t497 t498 t499 _ ?side1 ?side2 A1.out).mono ?_); (case side1 => repeat (first | exact (Kd.R_reads' HO491.out).2.2 | (with_reducible refine Kd.C_alloc ?_ _) | (with_reducible refine Kd.C_drewN ?_ _) | (with_reducible refine Kd.C_drew ?_))); (case side2 => exact (Kd.R_reads' HO491.out).2.1); rintro e w6 ⟨v495, rfl, ho0, hb⟩; refine ⟨_, rfl, ?_⟩; have n0_ := Aside0.mk (Kd.R_below (by (with_reducible repeat (first | apply Kd.R_alloc | apply Kd.R_drewN | apply Kd.R_drew)); exact HO491.out) hb); have n1_ := Aside0.mk (Kd.S_lower (Kd.S_new' ho0 (Kd.R_lt (by (with_reducible repeat (first | apply Kd.R_alloc | apply Kd.R_drewN | apply Kd.R_drew)); exact HO491.out))) (below_size (by repeat (first | (with_reducible first | exact HB.out | apply la1 | apply ln1 | apply ld1 | refine ls1 ?_ GE488.out) | exact HB.out)))); have n2_ := Aside0.mk (bb1 (g := gb488) (o := .cells #[.int .i64 0, .int .u8 0, .slice none 0 0, .string (⟨#[]⟩ : ByteArray), .int .u8 0, .string (⟨#[]⟩ : ByteArray)] 30 (0, 0)) (by (with_reducible repeat (first | refine bn1 ?_ _ | refine bd1 ?_ | refine ba1 ?_ _)); exact BK488.out) hb); have n3_ := Aside0.mk (below_step (by repeat (first | (with_reducible first | exact HB.out | apply la1 | apply ln1 | apply ld1 | refine ls1 ?_ GE488.out) | exact HB.out)) hb); clear HO491; clear BK488; clear HB; have HO491 := n0_; have HO496 := n1_; have BK488 := n2_; have HB := n3_; clear n0_ n1_ n2_ n3_; (try clear hb); (try clear hb2); (try clear hk); (try clear hi); (try clear ho0); have hcz7_0 : w6.cell? ⟨gb488, 0, none⟩ = some (.int .i64 0) := (bc1 BK488.out 0).trans rfl; have hcz7_1 : w6.cell? ⟨gb488, 1, none⟩ = some (.int .u8 0) := (bc1 BK488.out 1).trans rfl; have hcz7_2 : w6.cell? ⟨gb488, 2, none⟩ = some (.slice none 0 0) := (bc1 BK488.out 2).trans rfl; have hcz7_3 : w6.cell? ⟨gb488, 3, none⟩ = some (.string (⟨#[]⟩ : ByteArray)) := (bc1 BK488.out 3).trans rfl; have hcz7_4 : w6.cell? ⟨gb488, 4, none⟩ = some (.int .u8 0) := (bc1 BK488.out 4).trans rfl; have hcz7_5 : w6.cell? ⟨gb488, 5, none⟩ = some (.string (⟨#[]⟩ : ByteArray)) := (bc1 BK488.out 5).trans rfl; have hfz7_0 := bz1 BK488.out 0; have hfz7_1 := bz1 BK488.out 1; have hfz7_2 := bz1 BK488.out 2; have hfz7_3 := bz1 BK488.out 3; have hfz7_4 := bz1 BK488.out 4; have hfz7_5 := bz1 BK488.out 5; obtain ⟨Ao8, co8, eo8⟩ := Kd.S_slice HO496.out; subst eo8))
  refine bodyPost_ret (results_cell_row rfl _ _ gb488 30 #[.int .i64 t492, .int .u8 t493, .slice Ao8 t494.length co8, .string t497, .int .u8 t498, .string t499] (0, 0) _ rfl (by (with_reducible repeat (first | refine bn1 ?_ _ | refine bd1 ?_ | refine ba1 ?_ _)); refine bp1 (cs := #[.int .i64 t492, .int .u8 t493, .slice Ao8 t494.length co8, .string t497, .int .u8 t498, .string (⟨#[]⟩ : ByteArray)]) ?_ 5 _ rfl; (with_reducible repeat (first | refine bn1 ?_ _ | refine bd1 ?_ | refine ba1 ?_ _)); refine bp1 (cs := #[.int .i64 t492, .int .u8 t493, .slice Ao8 t494.length co8, .string t497, .int .u8 0, .string (⟨#[]⟩ : ByteArray)]) ?_ 4 _ rfl; (with_reducible repeat (first | refine bn1 ?_ _ | refine bd1 ?_ | refine ba1 ?_ _)); refine bp1 (cs := #[.int .i64 t492, .int .u8 t493, .slice Ao8 t494.length co8, .string (⟨#[]⟩ : ByteArray), .int .u8 0, .string (⟨#[]⟩ : ByteArray)]) ?_ 3 _ rfl; (with_reducible repeat (first | refine bn1 ?_ _ | refine bd1 ?_ | refine ba1 ?_ _)); refine bp1 (cs := #[.int .i64 t492, .int .u8 t493, .slice none 0 0, .string (⟨#[]⟩ : ByteArray), .int .u8 0, .string (⟨#[]⟩ : ByteArray)]) ?_ 2 _ rfl; (with_reducible repeat (first | refine bn1 ?_ _ | refine bd1 ?_ | refine ba1 ?_ _)); refine bp1 (cs := #[.int .i64 t492, .int .u8 0, .slice none 0 0, .string (⟨#[]⟩ : ByteArray), .int .u8 0, .string (⟨#[]⟩ : ByteArray)]) ?_ 1 _ rfl; (with_reducible repeat (first | refine bn1 ?_ _ | refine bd1 ?_ | refine ba1 ?_ _)); refine bp1 (cs := #[.int .i64 0, .int .u8 0, .slice none 0 0, .string (⟨#[]⟩ : ByteArray), .int .u8 0, .string (⟨#[]⟩ : ByteArray)]) ?_ 0 _ rfl; (with_reducible repeat (first | refine bn1 ?_ _ | refine bd1 ?_ | refine ba1 ?_ _)); exact BK488.out) Tryd.underlying30 rfl (by kernel_rfl)) rfl ?_
  exact ⟨_, by first | rfl | (simp [errW_none, errW_some] <;> rfl) | (simp [*, errW_none, errW_some] <;> rfl), by (with_reducible repeat (first | apply Kd.S_alloc | apply Kd.S_drewN | apply Kd.S_drew)); exact Kd.S_mono (Kd.S_far (p := ⟨gb488, 5, none⟩) (Kd.S_far (p := ⟨gb488, 4, none⟩) (Kd.S_far (p := ⟨gb488, 3, none⟩) (Kd.S_far (p := ⟨gb488, 2, none⟩) (Kd.S_far (p := ⟨gb488, 1, none⟩) (Kd.S_far (p := ⟨gb488, 0, none⟩) (Kd.S_types HO496.out BK488.out (by decide)) (fun _ hk => hk.2) (.int .i64 t492)) (fun _ hk => hk.2) (.int .u8 t493)) (fun _ hk => hk.2) (.slice Ao8 t494.length co8)) (fun _ hk => hk.2) (.string t497)) (fun _ hk => hk.2) (.int .u8 t498)) (fun _ hk => hk.2) (.string t499)) (fun _ hk => trivial), by repeat (first | (with_reducible first | exact HB.out | apply la1 | apply ln1 | apply ld1 | refine ls1 ?_ GE488.out) | exact HB.out)⟩
def clavierref19_Version.f  : Option (Int × Int × (List (List Int)) × ByteArray × Int × ByteArray) := some (3, 62, ([] : List (List Int)), (⟨#[]⟩ : ByteArray), 124, (⟨#[99, 108, 97, 118, 105, 101, 114, 40, 49, 41]⟩ : ByteArray))
set_option maxHeartbeats 8000000 in
set_option maxRecDepth 100000 in
theorem clavierref19_Version.calls  (r1 : Int) (r2 : Int) (r3 : List (List Int)) (r4 : ByteArray) (r5 : Int) (r6 : ByteArray) (w : World) (h : clavierref19_Version.f  = some (r1, r2, r3, r4, r5, r6)) :
    Calls Tryd.prog 25 #[] w fun e w' => ∃ v2_ : Value, e = .returned (.agg #[.int .i64 r1, .int .u8 r2, v2_, .string r4, .int .u8 r5, .string r6]) ∧ Kd.S (Kd.slice 3 (Kd.int .i64)) 52 w' w.heap.size (fun _ => True) v2_ r3 ∧ Below w.heap.size w w' := by
  have hu30 := Tryd.underlying30
  have HB := Aside0.mk (Below.refl w.heap.size w)
  have H : (some (3, 62, ([] : List (List Int)), (⟨#[]⟩ : ByteArray), 124, (⟨#[99, 108, 97, 118, 105, 101, 114, 40, 49, 41]⟩ : ByteArray))) = some (r1, r2, r3, r4, r5, r6) := h
  clear h
  simp only [Option.some.injEq, Prod.mk.injEq] at H
  obtain ⟨rfl, rfl, rfl, rfl, rfl, rfl⟩ := H
  go_enter Tryd.func25, Tryd.ntmps25
  go_wp2_with (first | ((with_reducible refine gate_dst (N := 0) rfl ?_); refine box_event ?hg (N := 0) ?hd (cs := #[.int .i64 0, .int .u8 0, .slice none 0 0, .string (⟨#[]⟩ : ByteArray), .int .u8 0, .string (⟨#[]⟩ : ByteArray)]) (t := 30) ?hr ?_; (case hd => rfl); (case hg => rfl); (case hr => first | (go_simp; done) | (go_simp; rfl)); intro gb500 hg w1 hbox hb; have n0_ := Aside0.mk (below_step (by repeat (first | (with_reducible first | exact HB.out | apply la1 | apply ln1 | apply ld1) | exact HB.out)) hb); have n1_ := Aside0.mk (hbox); have n2_ := Aside0.mk ((by rw [hg]; exact (below_size (by repeat (first | (with_reducible first | exact HB.out | apply la1 | apply ln1 | apply ld1) | exact HB.out))) : w.heap.size ≤ gb500)); have n3_ := Aside0.mk ((by rw [hg]; exact (below_size (by repeat (first | (with_reducible first | exact HB.out | apply la1 | apply ln1 | apply ld1) | exact HB.out))) : w.heap.size ≤ gb500)); clear HB; have HB := n0_; have BK500 := n1_; have GW500 := n2_; have GE500 := n3_; clear n0_ n1_ n2_ n3_; clear hb hbox hg; have hcz2_0 : w1.cell? ⟨gb500, 0, none⟩ = some (.int .i64 0) := (bc1 BK500.out 0).trans rfl; have hcz2_1 : w1.cell? ⟨gb500, 1, none⟩ = some (.int .u8 0) := (bc1 BK500.out 1).trans rfl; have hcz2_2 : w1.cell? ⟨gb500, 2, none⟩ = some (.slice none 0 0) := (bc1 BK500.out 2).trans rfl; have hcz2_3 : w1.cell? ⟨gb500, 3, none⟩ = some (.string (⟨#[]⟩ : ByteArray)) := (bc1 BK500.out 3).trans rfl; have hcz2_4 : w1.cell? ⟨gb500, 4, none⟩ = some (.int .u8 0) := (bc1 BK500.out 4).trans rfl; have hcz2_5 : w1.cell? ⟨gb500, 5, none⟩ = some (.string (⟨#[]⟩ : ByteArray)) := (bc1 BK500.out 5).trans rfl; have hfz2_0 := bz1 BK500.out 0; have hfz2_1 := bz1 BK500.out 1; have hfz2_2 := bz1 BK500.out 2; have hfz2_3 := bz1 BK500.out 3; have hfz2_4 := bz1 BK500.out 4; have hfz2_5 := bz1 BK500.out 5))
  refine bodyPost_ret (results_cell_row rfl _ _ gb500 30 #[.int .i64 3, .int .u8 62, .slice none 0 0, .string (⟨#[]⟩ : ByteArray), .int .u8 124, .string (⟨#[99, 108, 97, 118, 105, 101, 114, 40, 49, 41]⟩ : ByteArray)] (0, 0) _ rfl (by (with_reducible repeat (first | refine bn1 ?_ _ | refine bd1 ?_ | refine ba1 ?_ _)); refine bp1 (cs := #[.int .i64 3, .int .u8 62, .slice none 0 0, .string (⟨#[]⟩ : ByteArray), .int .u8 124, .string (⟨#[]⟩ : ByteArray)]) ?_ 5 _ rfl; (with_reducible repeat (first | refine bn1 ?_ _ | refine bd1 ?_ | refine ba1 ?_ _)); refine bp1 (cs := #[.int .i64 3, .int .u8 62, .slice none 0 0, .string (⟨#[]⟩ : ByteArray), .int .u8 0, .string (⟨#[]⟩ : ByteArray)]) ?_ 4 _ rfl; (with_reducible repeat (first | refine bn1 ?_ _ | refine bd1 ?_ | refine ba1 ?_ _)); refine bp1 (cs := #[.int .i64 3, .int .u8 62, .slice none 0 0, .string (⟨#[]⟩ : ByteArray), .int .u8 0, .string (⟨#[]⟩ : ByteArray)]) ?_ 3 _ rfl; (with_reducible repeat (first | refine bn1 ?_ _ | refine bd1 ?_ | refine ba1 ?_ _)); refine bp1 (cs := #[.int .i64 3, .int .u8 62, .slice none 0 0, .string (⟨#[]⟩ : ByteArray), .int .u8 0, .string (⟨#[]⟩ : ByteArray)]) ?_ 2 _ rfl; (with_reducible repeat (first | refine bn1 ?_ _ | refine bd1 ?_ | refine ba1 ?_ _)); refine bp1 (cs := #[.int .i64 3, .int .u8 0, .slice none 0 0, .string (⟨#[]⟩ : ByteArray), .int .u8 0, .string (⟨#[]⟩ : ByteArray)]) ?_ 1 _ rfl; (with_reducible repeat (first | refine bn1 ?_ _ | refine bd1 ?_ | refine ba1 ?_ _)); refine bp1 (cs := #[.int .i64 0, .int .u8 0, .slice none 0 0, .string (⟨#[]⟩ : ByteArray), .int .u8 0, .string (⟨#[]⟩ : ByteArray)]) ?_ 0 _ rfl; (with_reducible repeat (first | refine bn1 ?_ _ | refine bd1 ?_ | refine ba1 ?_ _)); exact BK500.out) Tryd.underlying30 rfl (by kernel_rfl)) rfl ?_
  exact ⟨_, by first | rfl | (simp [errW_none, errW_some] <;> rfl) | (simp [*, errW_none, errW_some] <;> rfl), by first | exact Kd.S_nil _ _ _ _ _ | exact Kd.N_nil _ _ _ _ _ | exact Kd.V_nil _ _ _ _ _ | exact Kd.Q_nil _ _ _ _ _ | exact Kd.R_nil _ _ _ _ _, by repeat (first | (with_reducible first | exact HB.out | apply la1 | apply ln1 | apply ld1 | refine ls1 ?_ GE500.out) | exact HB.out)⟩
end Go.Proofs.YtopcleljecdkkaaDoor.G
end
section
namespace Go.Proofs.YtopcleljecdkkaaDoor.G
open Go.RowKit Go.Proofs.YtopcleljecdkkaaDoorW.PrintWords Go.Proofs.YtopcleljecdkkaaDoorW.PrintLast Go.Proofs.YtopcleljecdkkaaDoorW.PrintMore
attribute [local go_sem] max2_int min2_int max_two min_two max_three min_three max_four min_four
set_option linter.unusedVariables false
set_option linter.unusedSimpArgs false
def clavierref06_Get.f (a0_0 : Bool) (a0_1 : Bool) (a0_2 : Bool) (a0_3 : Bool) (a0_4 : Bool) (a0_5 : Bool) (a0_6 : Bool) (a0_7 : Int) (a0_8 : Int) (a0_9 : Int) (a1 : Bool) (a2 : Int) : Option (Int) := some (getM ⟨a0_0, a0_1, a0_2, a0_3, a0_4, a0_5, a0_6, a0_7, a0_8, a0_9⟩ a1 a2)
theorem clavierref06_Get.calls (a0_0 : Bool) (a0_1 : Bool) (a0_2 : Bool) (a0_3 : Bool) (a0_4 : Bool) (a0_5 : Bool) (a0_6 : Bool) (a0_7 : Int) (a0_8 : Int) (a0_9 : Int) (a1 : Bool) (a2 : Int) (r : Int) (w : World) (h : clavierref06_Get.f a0_0 a0_1 a0_2 a0_3 a0_4 a0_5 a0_6 a0_7 a0_8 a0_9 a1 a2 = some r) :
    Calls Tryd.prog 46 #[.agg #[.bool a0_0, .bool a0_1, .bool a0_2, .bool a0_3, .bool a0_4, .bool a0_5, .bool a0_6, .int .i64 a0_7, .int .i64 a0_8, .int .i64 a0_9], .bool a1, .int .i64 a2] w fun e w' => e = .returned (.int .i64 r) ∧ Below w.heap.size w w' := by
  obtain rfl := Option.some.inj h
  exact rget_calls ⟨a0_0, a0_1, a0_2, a0_3, a0_4, a0_5, a0_6, a0_7, a0_8, a0_9⟩ a1 a2 w
end Go.Proofs.YtopcleljecdkkaaDoor.G
end
section
namespace Go.Proofs.YtopcleljecdkkaaDoor.G
set_option linter.unusedVariables false
set_option linter.unusedSimpArgs false
open Go.RowKit Kit Go.Proofs.YtopcleljecdkkaaDoorW.PrintWords Go.Proofs.YtopcleljecdkkaaDoorW.PrintMore
theorem rnum1 (pr fi a : Int) : clavierref19_nums.f 10 pr fi [a] = some (1, pr, [[a]], ⟨#[]⟩, fi, ⟨#[]⟩) := by simp [clavierref19_nums.f, clavierref19_nums.l0, rd, wrap64]
theorem refFlags_is (n : Int) : clavierref19_Flags.f 10 n = some (flagsT n) := by
  unfold clavierref19_Flags.f clavierref08_Flags.f
  rw [Option.bind_some, rnum1, Option.bind_some]; rfl
theorem refFine_is : clavierref19_Fine.f 10 = some fineT := by unfold clavierref19_Fine.f; rw [rnum1, Option.bind_some]; rfl
theorem refVersion_is : clavierref19_Version.f = some versionT := rfl
theorem refAttr_is (n : Int) : clavierref19_Attributes.f 10 n = some (attrT n) := by
  unfold clavierref19_Attributes.f attrT
  rw [rnum2, rnum3, Option.bind_some, Option.bind_some]
  split
  · rfl
  · split
    · rfl
    · split <;> rfl
end Go.Proofs.YtopcleljecdkkaaDoor.G
end
section
namespace Go.Proofs.YtopcleljecdkkaaDoor
set_option linter.unusedVariables false
set_option linter.unusedSimpArgs false
set_option maxRecDepth 100000
open Go.RowKit Kit Go.Proofs.YtopcleljecdkkaaDoorW.PrintWords G
attribute [local irreducible] wpList Calls
theorem same_self (q : Sq) (w : World) (hw : wide q.rows 1) (hl : q.rows.length ≤ 100) : SameIs q q true w := by
  have h := same_by q q w 1 (by decide) hw (by omega) (by omega)
  rwa [decide_eq_true rfl] at h
section
variable (m0 m1 m2 m3 m4 m5 m6 : Bool) (m7 m8 m9 : Int) (p : Bool) (n : Int) {w : World}
theorem refMode_tells : Tells 19 #[modV m0 m1 m2 m3 m4 m5 m6 m7 m8 m9, .bool p, .int .i64 n] (sqOf (modeT ⟨m0, m1, m2, m3, m4, m5, m6, m7, m8, m9⟩ p n)) w := fun W _ =>
  (rmode_calls ⟨m0, m1, m2, m3, m4, m5, m6, m7, m8, m9⟩ p n (clamp n) (getM ⟨m0, m1, m2, m3, m4, m5, m6, m7, m8, m9⟩ p n) W (fun W' _ => clavierref19_fact.calls n (clamp n) W' rfl) (fun W' _ => clavierref06_Get.calls m0 m1 m2 m3 m4 m5 m6 m7 m8 m9 p n _ W' rfl)
    (fun W' b hb hr => clavierref19_nums.calls 10 0 121 (some ⟨b, 0, none⟩) 2 [clamp n, getM ⟨m0, m1, m2, m3, m4, m5, m6, m7, m8, m9⟩ p n] 1 0 _ ⟨#[]⟩ 121 ⟨#[]⟩ W' (Kit.lit_ints hr (by simp)) (Nat.le_refl _) (rnum2 _ _ _ _))).mono fun e w' ⟨v, h1, h2, h3⟩ => ⟨_, h1, ⟨v, rfl, h2⟩, h3⟩
theorem refFlags_tells : Tells 21 #[.int .i64 n] (sqOf (flagsT n)) w := fun W _ =>
  (clavierref19_Flags.calls 10 n _ _ _ _ _ _ W (refFlags_is n)).mono fun e w' ⟨v, h1, h2, h3⟩ => ⟨_, h1, ⟨v, rfl, h2⟩, h3⟩
theorem refFine_tells : Tells 23 #[] (sqOf fineT) w := fun W _ =>
  (clavierref19_Fine.calls 10 _ _ _ _ _ _ W refFine_is).mono fun e w' ⟨v, h1, h2, h3⟩ => ⟨_, h1, ⟨v, rfl, h2⟩, h3⟩
theorem refVersion_tells : Tells 25 #[] (sqOf versionT) w := fun W _ =>
  (clavierref19_Version.calls _ _ _ _ _ _ W refVersion_is).mono fun e w' ⟨v, h1, h2, h3⟩ => ⟨_, h1, ⟨v, rfl, h2⟩, h3⟩
theorem refAttr_tells : Tells 17 #[.int .u8 n] (sqOf (attrT n)) w := fun W _ =>
  (clavierref19_Attributes.calls 10 n (attrT n).1 (attrT n).2.1 (attrT n).2.2.1 (attrT n).2.2.2.1 (attrT n).2.2.2.2.1 (attrT n).2.2.2.2.2 W (refAttr_is n)).mono fun e w' ⟨v, h1, h2, h3⟩ => ⟨_, h1, ⟨v, rfl, h2⟩, h3⟩
end
theorem attr_rows (n : Int) : wide (sqOf (attrT n)).rows 1 ∧ (sqOf (attrT n)).rows.length ≤ 100 := by
  unfold attrT
  split
  · exact ⟨by simp [wide, sqOf], by simp [sqOf]⟩
  · split
    · exact ⟨by simp [wide, sqOf], by simp [sqOf]⟩
    · split
      · exact ⟨by simp [wide, sqOf], by simp [sqOf]⟩
      · exact ⟨by simp [wide, sqOf], by simp [sqOf]⟩
end Go.Proofs.YtopcleljecdkkaaDoor
end
section
namespace Go.Proofs.YtopcleljecdkkaaDoor
set_option linter.unusedVariables false
set_option linter.unusedSimpArgs false
open Go.RowKit Kit Go.Proofs.YtopcleljecdkkaaDoorW.PrintWords
theorem meas_step (k : Nat) (h : k < 256) : 256 - (intOf (.int .i64 (wrap64 ((k : Int) + 1)))).toNat < 256 - (intOf (.int .i64 (k : Int))).toNat := by
  have e : wrap64 ((k : Int) + 1) = ((k + 1 : Nat) : Int) := by unfold wrap64; omega
  rw [e]
  show 256 - (((k + 1 : Nat) : Int)).toNat < 256 - ((k : Int)).toNat
  rw [Int.toNat_natCast, Int.toNat_natCast]
  omega
attribute [local irreducible] wpList Calls
set_option maxRecDepth 100000 in
set_option maxHeartbeats 4000000 in
theorem modes_walk (m0 m1 m2 m3 m4 m5 m6 : Bool) (m7 m8 m9 : Int) (p : Bool) (n : Int) (w : World) (ha : Gives 9 #[] (.bool true) w) (qa : Nat → Sq) (q1 q2 q3 q4 q5 q6 q7 q8 : Sq)
    (ta : ∀ k : Nat, k < 256 → Tells 16 #[.int .u8 (k : Int)] (qa k) w) (tb : ∀ k : Nat, k < 256 → Tells 17 #[.int .u8 (k : Int)] (qa k) w) (sa : ∀ k : Nat, k < 256 → SameIs (qa k) (qa k) true w)
    (t1 : Tells 18 #[.agg #[.bool m0, .bool m1, .bool m2, .bool m3, .bool m4, .bool m5, .bool m6, .int .i64 m7, .int .i64 m8, .int .i64 m9], .bool p, .int .i64 n] q1 w) (t2 : Tells 19 #[.agg #[.bool m0, .bool m1, .bool m2, .bool m3, .bool m4, .bool m5, .bool m6, .int .i64 m7, .int .i64 m8, .int .i64 m9], .bool p, .int .i64 n] q2 w) (t3 : Tells 20 #[.int .i64 n] q3 w) (t4 : Tells 21 #[.int .i64 n] q4 w) (t5 : Tells 22 #[] q5 w) (t6 : Tells 23 #[] q6 w) (t7 : Tells 24 #[] q7 w) (t8 : Tells 25 #[] q8 w)
    (s1 : SameIs q1 q2 true w) (s2 : SameIs q3 q4 true w) (s3 : SameIs q5 q6 true w) (s4 : SameIs q7 q8 true w) :
    Calls Tryd.prog 7 #[.agg #[.bool m0, .bool m1, .bool m2, .bool m3, .bool m4, .bool m5, .bool m6, .int .i64 m7, .int .i64 m8, .int .i64 m9], .bool p, .int .i64 n] w fun e w' => e = .returned (.bool true) ∧ Below w.heap.size w w' := by
  have HO := Mine.start w
  have HA := Lib.hid ha
  have TA := Lib.hid ta
  have TB := Lib.hid tb
  have SA := Lib.hid sa
  have T1 := Lib.hid t1
  have T2 := Lib.hid t2
  have T3 := Lib.hid t3
  have T4 := Lib.hid t4
  have T5 := Lib.hid t5
  have T6 := Lib.hid t6
  have T7 := Lib.hid t7
  have T8 := Lib.hid t8
  have S1 := Lib.hid s1
  have S2 := Lib.hid s2
  have S3 := Lib.hid s3
  have S4 := Lib.hid s4
  clear ha ta tb sa t1 t2 t3 t4 t5 t6 t7 t8 s1 s2 s3 s4
  go_enter Tryd.func7, Tryd.ntmps7
  go_wp2_with (first
      | (go_at_call 9; refine (HA.out _ HO.below).mono ?_; rintro eN wN ⟨rfl, hbN⟩; have HON := HO.call hbN; clear HO hbN; have HO := HON; clear HON)
      | ((with_reducible refine gate ?_); (first
      | ((refine own_box HO rfl rfl rfl ?_); clear HO; intro gS wN hgN HO; (simp only [List.nil_append, List.cons_append] at HO); (try simp only [Act.put, List.setIfInBounds_toArray, List.set_cons_zero, List.set_cons_succ]))
      | ((refine own_load (T := 39) HO rfl rfl rfl (by first | exact .head _ | exact .tail _ (.head _) | exact .tail _ (.tail _ (.head _)) | exact .tail _ (.tail _ (.tail _ (.head _))) | exact .tail _ (.tail _ (.tail _ (.tail _ (.head _)))) | exact .tail _ (.tail _ (.tail _ (.tail _ (.tail _ (.head _)))))) Tryd.isAgg39 Tryd.sizeOf39 (by repeat constructor) ?_); (try simp only [Act.put, List.setIfInBounds_toArray, List.set_cons_zero, List.set_cons_succ]))
      | ((refine own_store (T := 39) HO rfl rfl rfl rfl (by first | exact .here | exact .there (.here) | exact .there (.there (.here)) | exact .there (.there (.there (.here))) | exact .there (.there (.there (.there (.here)))) | exact .there (.there (.there (.there (.there (.here)))))) Tryd.sizeOf39 (by repeat constructor) rfl ?_); clear HO; intro wN HO; (try simp only [Act.put, List.setIfInBounds_toArray, List.set_cons_zero, List.set_cons_succ])))))
  go_loopw [8] (fun i wr => ∃ k : Nat, k ≤ 256 ∧ i = .int .i64 (k : Int) ∧ Mine w wr [(gS, IsCells [.bool m0, .bool m1, .bool m2, .bool m3, .bool m4, .bool m5, .bool m6, .int .i64 m7, .int .i64 m8, .int .i64 m9] 39)]) (fun i _ => 256 - (intOf i).toNat)
  case atStart => exact ⟨0, by omega, rfl, HO⟩
  case round =>
    obtain ⟨k, hk, rfl, HOn⟩ := hrel
    clear HO
    have HO := HOn
    clear HOn
    by_cases hlt : k < 256
    · have hc1 : decide ((k : Int) < 256) = true := decide_eq_true (by omega)
      have hw : IntKind.u8.wrap (k : Int) = (k : Int) := by simp [IntKind.wrap, IntKind.signed, IntKind.bits]; omega
      have HLT := Lib.hid hlt
      clear hlt hk
      go_wp2_with (first
      | (go_at_call 16; refine (TA.out k HLT.out _ HO.below).mono ?_; rintro eN wN ⟨vA, rfl, hA, hbN⟩; have HON := HO.call hbN; clear HO hbN; have HO := HON; clear HON)
      | (go_at_call 17; refine (TB.out k HLT.out _ HO.below).mono ?_; rintro eN wN ⟨vB, rfl, hB, hbN⟩; have hA2 := Stays.fSq _ _ _ _ _ hA hbN; clear hA; have hA := hA2; clear hA2; have HON := HO.call hbN; clear HO hbN; have HO := HON; clear HON)
      | (go_at_call 10; refine (SA.out k HLT.out _ _ _ _ _ HO.below hA hB).mono ?_; rintro eN wN ⟨rfl, hbN⟩; have HON := HO.call hbN; clear HO hbN hA hB; have HO := HON; clear HON)
      | ((with_reducible refine gate ?_); (first
      | ((refine own_box HO rfl rfl rfl ?_); clear HO; intro gN wN hgN HO; (simp only [List.nil_append, List.cons_append] at HO); (try simp only [Act.put, List.setIfInBounds_toArray, List.set_cons_zero, List.set_cons_succ]))
      | ((refine own_load (T := 39) HO rfl rfl rfl (by first | exact .head _ | exact .tail _ (.head _) | exact .tail _ (.tail _ (.head _)) | exact .tail _ (.tail _ (.tail _ (.head _))) | exact .tail _ (.tail _ (.tail _ (.tail _ (.head _)))) | exact .tail _ (.tail _ (.tail _ (.tail _ (.tail _ (.head _)))))) Tryd.isAgg39 Tryd.sizeOf39 (by repeat constructor) ?_); (try simp only [Act.put, List.setIfInBounds_toArray, List.set_cons_zero, List.set_cons_succ]))
      | ((refine own_store (T := 39) HO rfl rfl rfl rfl (by first | exact .here | exact .there (.here) | exact .there (.there (.here)) | exact .there (.there (.there (.here))) | exact .there (.there (.there (.there (.here)))) | exact .there (.there (.there (.there (.there (.here)))))) Tryd.sizeOf39 (by repeat constructor) rfl ?_); clear HO; intro wN HO; (try simp only [Act.put, List.setIfInBounds_toArray, List.set_cons_zero, List.set_cons_succ])))))
      go_roundw
      case rel => have h := HLT.out; exact ⟨k + 1, by omega, congrArg (Value.int .i64) (show wrap64 ((k : Int) + 1) = ((k + 1 : Nat) : Int) by unfold wrap64; omega), HO⟩
      case measure => exact meas_step k HLT.out
    · obtain rfl : k = 256 := by omega
      go_wp2_with (first
      | ((with_reducible refine gate ?_); (first
      | ((refine own_box HO rfl rfl rfl ?_); clear HO; intro gN wN hgN HO; (simp only [List.nil_append, List.cons_append] at HO); (try simp only [Act.put, List.setIfInBounds_toArray, List.set_cons_zero, List.set_cons_succ]))
      | ((refine own_load (T := 39) HO rfl rfl rfl (by first | exact .head _ | exact .tail _ (.head _) | exact .tail _ (.tail _ (.head _)) | exact .tail _ (.tail _ (.tail _ (.head _))) | exact .tail _ (.tail _ (.tail _ (.tail _ (.head _)))) | exact .tail _ (.tail _ (.tail _ (.tail _ (.tail _ (.head _)))))) Tryd.isAgg39 Tryd.sizeOf39 (by repeat constructor) ?_); (try simp only [Act.put, List.setIfInBounds_toArray, List.set_cons_zero, List.set_cons_succ]))
      | ((refine own_store (T := 39) HO rfl rfl rfl rfl (by first | exact .here | exact .there (.here) | exact .there (.there (.here)) | exact .there (.there (.there (.here))) | exact .there (.there (.there (.there (.here)))) | exact .there (.there (.there (.there (.there (.here)))))) Tryd.sizeOf39 (by repeat constructor) rfl ?_); clear HO; intro wN HO; (try simp only [Act.put, List.setIfInBounds_toArray, List.set_cons_zero, List.set_cons_succ])))))
      refine region_law 29 [fIs (.bool true), fIs (.bool true), fIs (.agg #[.bool m0, .bool m1, .bool m2, .bool m3, .bool m4, .bool m5, .bool m6, .int .i64 m7, .int .i64 m8, .int .i64 m9]), fIs (.bool p), fIs (.int .i64 n), fSq w.heap.size q1, fIs (.agg #[.bool m0, .bool m1, .bool m2, .bool m3, .bool m4, .bool m5, .bool m6, .int .i64 m7, .int .i64 m8, .int .i64 m9]), fIs (.bool p), fIs (.int .i64 n), fSq w.heap.size q2, fIs (.bool true), fIs (.bool true), fIs (.bool true), fIs (.int .i64 n), fSq w.heap.size q3, fIs (.int .i64 n), fSq w.heap.size q4, fIs (.bool true), fIs (.bool true), fIs (.bool true), fSq w.heap.size q5, fSq w.heap.size q6, fIs (.bool true), fIs (.bool true), fIs (.bool true), fSq w.heap.size q7, fSq w.heap.size q8, fIs (.bool true), fIs (.bool true)] HO (by kernel_rfl) (by kernel_rfl) (by decide) (by kernel_rfl)
        (stays_cons (Stays.fIs _) (stays_cons (Stays.fIs _) (stays_cons (Stays.fIs _) (stays_cons (Stays.fIs _) (stays_cons (Stays.fIs _) (stays_cons (Stays.fSq _ _) (stays_cons (Stays.fIs _) (stays_cons (Stays.fIs _) (stays_cons (Stays.fIs _) (stays_cons (Stays.fSq _ _) (stays_cons (Stays.fIs _) (stays_cons (Stays.fIs _) (stays_cons (Stays.fIs _) (stays_cons (Stays.fIs _) (stays_cons (Stays.fSq _ _) (stays_cons (Stays.fIs _) (stays_cons (Stays.fSq _ _) (stays_cons (Stays.fIs _) (stays_cons (Stays.fIs _) (stays_cons (Stays.fIs _) (stays_cons (Stays.fSq _ _) (stays_cons (Stays.fSq _ _) (stays_cons (Stays.fIs _) (stays_cons (Stays.fIs _) (stays_cons (Stays.fIs _) (stays_cons (Stays.fSq _ _) (stays_cons (Stays.fSq _ _) (stays_cons (Stays.fIs _) (stays_cons (Stays.fIs _) stays_nil))))))))))))))))))))))))))))) ?_
      intro vals A hA
      simp [fillL, dstOf, List.range, List.range.loop, Act.put] at hA
      subst hA
      refine ⟨⟨?_, ?_, ?_, ?_, ?_, ?_, ?_, ?_, ?_, ?_, ?_, ?_, ?_, ?_, ?_, ?_, ?_, ?_, ?_, ?_, ?_, ?_, ?_, ?_, ?_, ?_, ?_, ?_, ?_, trivial⟩, ?_⟩
      all_goals intro W hd hM hb0
      case refine_1 =>
        skip
        exact st_val rfl (by simp only [execOp]; first | (go_simp; done) | (go_simp; rfl)) rfl
      case refine_2 =>
        have v0 : vals 0 = .bool true := hd 0 (by kernel_rfl)
        rw [v0]
        exact st_val rfl (by simp only [execOp]; first | (go_simp; done) | (go_simp; rfl)) rfl
      case refine_3 =>
        have v1 : vals 1 = .bool true := hd 1 (by kernel_rfl)
        rw [v1]
        exact st_load hM rfl rfl rfl (.head _) Tryd.isAgg39 Tryd.sizeOf39 (by repeat constructor) rfl
      case refine_4 =>
        have v1 : vals 1 = .bool true := hd 1 (by kernel_rfl)
        rw [v1]
        exact st_val rfl (by simp only [execOp]; first | (go_simp; done) | (go_simp; rfl)) rfl
      case refine_5 =>
        have v1 : vals 1 = .bool true := hd 1 (by kernel_rfl)
        rw [v1]
        exact st_val rfl (by simp only [execOp]; first | (go_simp; done) | (go_simp; rfl)) rfl
      case refine_6 =>
        have v1 : vals 1 = .bool true := hd 1 (by kernel_rfl)
        have v2 : vals 2 = .agg #[.bool m0, .bool m1, .bool m2, .bool m3, .bool m4, .bool m5, .bool m6, .int .i64 m7, .int .i64 m8, .int .i64 m9] := hd 2 (by kernel_rfl)
        have v3 : vals 3 = .bool p := hd 3 (by kernel_rfl)
        have v4 : vals 4 = .int .i64 n := hd 4 (by kernel_rfl)
        rw [v1, v2, v3, v4]
        exact st_call rfl (by simp only [execOp]; first | (go_simp; done) | (go_simp; rfl)) (T1.out W hM.below) (by rintro e w' ⟨v, rfl, hS, hb⟩; exact ⟨_, rfl, hb, hS.lower hM.below.size⟩)
      case refine_7 =>
        have v1 : vals 1 = .bool true := hd 1 (by kernel_rfl)
        rw [v1]
        exact st_load hM rfl rfl rfl (.head _) Tryd.isAgg39 Tryd.sizeOf39 (by repeat constructor) rfl
      case refine_8 =>
        have v1 : vals 1 = .bool true := hd 1 (by kernel_rfl)
        rw [v1]
        exact st_val rfl (by simp only [execOp]; first | (go_simp; done) | (go_simp; rfl)) rfl
      case refine_9 =>
        have v1 : vals 1 = .bool true := hd 1 (by kernel_rfl)
        rw [v1]
        exact st_val rfl (by simp only [execOp]; first | (go_simp; done) | (go_simp; rfl)) rfl
      case refine_10 =>
        have v1 : vals 1 = .bool true := hd 1 (by kernel_rfl)
        have v6 : vals 6 = .agg #[.bool m0, .bool m1, .bool m2, .bool m3, .bool m4, .bool m5, .bool m6, .int .i64 m7, .int .i64 m8, .int .i64 m9] := hd 6 (by kernel_rfl)
        have v7 : vals 7 = .bool p := hd 7 (by kernel_rfl)
        have v8 : vals 8 = .int .i64 n := hd 8 (by kernel_rfl)
        rw [v1, v6, v7, v8]
        exact st_call rfl (by simp only [execOp]; first | (go_simp; done) | (go_simp; rfl)) (T2.out W hM.below) (by rintro e w' ⟨v, rfl, hS, hb⟩; exact ⟨_, rfl, hb, hS.lower hM.below.size⟩)
      case refine_11 =>
        have v1 : vals 1 = .bool true := hd 1 (by kernel_rfl)
        rw [v1]
        exact st_call rfl (by simp only [execOp]; first | (go_simp; done) | (go_simp; rfl)) (S1.out W _ _ _ _ hM.below (hd 5 (by kernel_rfl)) (hd 9 (by kernel_rfl))) (by rintro e w' ⟨rfl, hb⟩; exact ⟨_, rfl, hb, rfl⟩)
      case refine_12 =>
        have v1 : vals 1 = .bool true := hd 1 (by kernel_rfl)
        have v10 : vals 10 = .bool true := hd 10 (by kernel_rfl)
        rw [v1, v10]
        exact st_val rfl (by simp only [execOp]; first | (go_simp; done) | (go_simp; rfl)) rfl
      case refine_13 =>
        have v11 : vals 11 = .bool true := hd 11 (by kernel_rfl)
        rw [v11]
        exact st_val rfl (by simp only [execOp]; first | (go_simp; done) | (go_simp; rfl)) rfl
      case refine_14 =>
        have v12 : vals 12 = .bool true := hd 12 (by kernel_rfl)
        rw [v12]
        exact st_val rfl (by simp only [execOp]; first | (go_simp; done) | (go_simp; rfl)) rfl
      case refine_15 =>
        have v12 : vals 12 = .bool true := hd 12 (by kernel_rfl)
        have v13 : vals 13 = .int .i64 n := hd 13 (by kernel_rfl)
        rw [v12, v13]
        exact st_call rfl (by simp only [execOp]; first | (go_simp; done) | (go_simp; rfl)) (T3.out W hM.below) (by rintro e w' ⟨v, rfl, hS, hb⟩; exact ⟨_, rfl, hb, hS.lower hM.below.size⟩)
      case refine_16 =>
        have v12 : vals 12 = .bool true := hd 12 (by kernel_rfl)
        rw [v12]
        exact st_val rfl (by simp only [execOp]; first | (go_simp; done) | (go_simp; rfl)) rfl
      case refine_17 =>
        have v12 : vals 12 = .bool true := hd 12 (by kernel_rfl)
        have v15 : vals 15 = .int .i64 n := hd 15 (by kernel_rfl)
        rw [v12, v15]
        exact st_call rfl (by simp only [execOp]; first | (go_simp; done) | (go_simp; rfl)) (T4.out W hM.below) (by rintro e w' ⟨v, rfl, hS, hb⟩; exact ⟨_, rfl, hb, hS.lower hM.below.size⟩)
      case refine_18 =>
        have v12 : vals 12 = .bool true := hd 12 (by kernel_rfl)
        rw [v12]
        exact st_call rfl (by simp only [execOp]; first | (go_simp; done) | (go_simp; rfl)) (S2.out W _ _ _ _ hM.below (hd 14 (by kernel_rfl)) (hd 16 (by kernel_rfl))) (by rintro e w' ⟨rfl, hb⟩; exact ⟨_, rfl, hb, rfl⟩)
      case refine_19 =>
        have v12 : vals 12 = .bool true := hd 12 (by kernel_rfl)
        have v17 : vals 17 = .bool true := hd 17 (by kernel_rfl)
        rw [v12, v17]
        exact st_val rfl (by simp only [execOp]; first | (go_simp; done) | (go_simp; rfl)) rfl
      case refine_20 =>
        have v18 : vals 18 = .bool true := hd 18 (by kernel_rfl)
        rw [v18]
        exact st_val rfl (by simp only [execOp]; first | (go_simp; done) | (go_simp; rfl)) rfl
      case refine_21 =>
        have v19 : vals 19 = .bool true := hd 19 (by kernel_rfl)
        rw [v19]
        exact st_call rfl (by simp only [execOp]; first | (go_simp; done) | (go_simp; rfl)) (T5.out W hM.below) (by rintro e w' ⟨v, rfl, hS, hb⟩; exact ⟨_, rfl, hb, hS.lower hM.below.size⟩)
      case refine_22 =>
        have v19 : vals 19 = .bool true := hd 19 (by kernel_rfl)
        rw [v19]
        exact st_call rfl (by simp only [execOp]; first | (go_simp; done) | (go_simp; rfl)) (T6.out W hM.below) (by rintro e w' ⟨v, rfl, hS, hb⟩; exact ⟨_, rfl, hb, hS.lower hM.below.size⟩)
      case refine_23 =>
        have v19 : vals 19 = .bool true := hd 19 (by kernel_rfl)
        rw [v19]
        exact st_call rfl (by simp only [execOp]; first | (go_simp; done) | (go_simp; rfl)) (S3.out W _ _ _ _ hM.below (hd 20 (by kernel_rfl)) (hd 21 (by kernel_rfl))) (by rintro e w' ⟨rfl, hb⟩; exact ⟨_, rfl, hb, rfl⟩)
      case refine_24 =>
        have v19 : vals 19 = .bool true := hd 19 (by kernel_rfl)
        have v22 : vals 22 = .bool true := hd 22 (by kernel_rfl)
        rw [v19, v22]
        exact st_val rfl (by simp only [execOp]; first | (go_simp; done) | (go_simp; rfl)) rfl
      case refine_25 =>
        have v23 : vals 23 = .bool true := hd 23 (by kernel_rfl)
        rw [v23]
        exact st_val rfl (by simp only [execOp]; first | (go_simp; done) | (go_simp; rfl)) rfl
      case refine_26 =>
        have v24 : vals 24 = .bool true := hd 24 (by kernel_rfl)
        rw [v24]
        exact st_call rfl (by simp only [execOp]; first | (go_simp; done) | (go_simp; rfl)) (T7.out W hM.below) (by rintro e w' ⟨v, rfl, hS, hb⟩; exact ⟨_, rfl, hb, hS.lower hM.below.size⟩)
      case refine_27 =>
        have v24 : vals 24 = .bool true := hd 24 (by kernel_rfl)
        rw [v24]
        exact st_call rfl (by simp only [execOp]; first | (go_simp; done) | (go_simp; rfl)) (T8.out W hM.below) (by rintro e w' ⟨v, rfl, hS, hb⟩; exact ⟨_, rfl, hb, hS.lower hM.below.size⟩)
      case refine_28 =>
        have v24 : vals 24 = .bool true := hd 24 (by kernel_rfl)
        rw [v24]
        exact st_call rfl (by simp only [execOp]; first | (go_simp; done) | (go_simp; rfl)) (S4.out W _ _ _ _ hM.below (hd 25 (by kernel_rfl)) (hd 26 (by kernel_rfl))) (by rintro e w' ⟨rfl, hb⟩; exact ⟨_, rfl, hb, rfl⟩)
      case refine_29 =>
        have v24 : vals 24 = .bool true := hd 24 (by kernel_rfl)
        have v27 : vals 27 = .bool true := hd 27 (by kernel_rfl)
        rw [v24, v27]
        exact st_val rfl (by simp only [execOp]; first | (go_simp; done) | (go_simp; rfl)) rfl
      case refine_30 =>
        have v28 : vals 28 = .bool true := hd 28 (by omega)
        rw [v28]
        simp only [List.drop_succ_cons, List.drop_zero]
        go_wp2
        go_ret
        exact ⟨rfl, hM.below⟩
end Go.Proofs.YtopcleljecdkkaaDoor
end
