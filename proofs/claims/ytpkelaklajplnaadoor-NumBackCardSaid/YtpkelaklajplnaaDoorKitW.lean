/- A row that '[]byte(s)' made: its bytes, and what a store into it leaves. No condition. -/
import Derived.Test.YtpkelaklajplnaaDoorKitV
import Derived.Laws.Tables
import Derived.OwnWalk
namespace Go.Proofs.YtpkelaklajplnaaDoor.Kit
set_option linter.unusedVariables false
set_option linter.unusedSimpArgs false
open Go Go.RowKit

variable {P : Program} {w : World}

/-- block g is a row of bytes of which the first n are l; the mark lies behind its end -/
def Row (w : World) (g n cap : Nat) (e : TypeId) (l : List UInt8) : Prop :=
  ∃ cur fz, w.heap[g]? = some (.cells cur e fz) ∧ cur.size = cap ∧ cap ≤ fz.1 ∧ n ≤ cap ∧ cur.toList.take n = l.map byV

theorem Row.len {g n cap : Nat} {e : TypeId} {l : List UInt8} (h : Row w g n cap e l) : l.length = n := by
  obtain ⟨cur, fz, _, hc, _, hn, ht⟩ := h
  have := congrArg List.length ht
  rw [List.length_take, Array.length_toList, List.length_map] at this
  omega
theorem Row.lt {g n cap : Nat} {e : TypeId} {l : List UInt8} (h : Row w g n cap e l) : g < w.heap.size := by
  obtain ⟨cur, fz, hg, _⟩ := h
  exact (Array.getElem?_eq_some_iff.1 hg).1
theorem Row.reads {g n cap : Nat} {e : TypeId} {l : List UInt8} (h : Row w g n cap e l) : Reads w (some ⟨g, 0, none⟩) (l.map byV) := by
  obtain ⟨cur, fz, hg, _, _, _, ht⟩ := h
  exact Reads.row hg ht
theorem Row.marked {g n cap : Nat} {e : TypeId} {l : List UInt8} (h : Row w g n cap e l) {B : Nat} (hB : B ≤ g) : Marked w B e (.slice (some ⟨g, 0, none⟩) n cap) n (l.map byV) := by
  obtain ⟨cur, fz, hg, hc, hf, hn, ht⟩ := h
  exact ⟨g, cap, cur, fz, rfl, hB, hg, hc, hf, hn, ht⟩
theorem Row.cell {g n cap : Nat} {e : TypeId} {l : List UInt8} (h : Row w g n cap e l) {i : Nat} (hi : i < n) : w.cell? ⟨g, i, none⟩ = some (.int .u8 ((l[i]?.getD 0).toNat : Int)) := by
  have hr := h.reads i (byV (l[i]?.getD 0)) (by rw [List.getElem?_map, List.getElem?_eq_getElem (by rw [h.len]; exact hi)]; rfl)
  obtain ⟨b, o, he, hc⟩ := hr
  cases he
  rw [Nat.zero_add] at hc
  exact hc
theorem Row.free {g n cap : Nat} {e : TypeId} {l : List UInt8} (h : Row w g n cap e l) {i : Nat} (hi : i < n) : w.frozen? ⟨g, i, none⟩ = false := by
  obtain ⟨cur, fz, hg, hc, hf, hn, ht⟩ := h
  simp only [World.frozen?, hg]
  simp
  omega
theorem Row.set {g n cap : Nat} {e : TypeId} {l : List UInt8} (h : Row w g n cap e l) {i : Nat} (hi : i < n) (c : UInt8) : Row (w.setCell ⟨g, i, none⟩ (.int .u8 (c.toNat : Int))) g n cap e (l.set i c) := by
  obtain ⟨cur, fz, hg, hc, hf, hn, ht⟩ := h
  refine ⟨cur.setIfInBounds i (.int .u8 (c.toNat : Int)), fz, ?_, by simpa using hc, hf, hn, ?_⟩
  · rw [setCell_eq_setRow w g i cur e fz _ hg]
    exact setRow_heap w g _ _ e fz hg
  · rw [Array.toList_setIfInBounds, List.take_set, ht, List.map_set]
    rfl
theorem Row.below {w' : World} {g n cap : Nat} {e : TypeId} {l : List UInt8} (h : Row w g n cap e l) (hb : Below w.heap.size w w') : Row w' g n cap e l := by
  have hl := h.lt
  obtain ⟨cur, fz, hg, hc, hf, hn, ht⟩ := h
  exact ⟨cur, fz, (hb.block g hl).trans hg, hc, hf, hn, ht⟩

/-- '[]byte(s)' -/
theorem run_row_of {src dst e : TypeId} {s : ByteArray} (hs : P.underlying src = some .string) (hd : P.underlying dst = some (.slice e)) (he : P.underlying e = some (.int .u8)) (w : World) :
    ∃ c w', (convert src dst (.string s)).run P w = .ok (.slice (some ⟨w.heap.size, 0, none⟩) s.size c) w' ∧ Below w.heap.size w w' ∧ Row w' w.heap.size s.size c e s.data.toList := by
  have hc := grownCap_ge w s.size 0 e
  have hl : (s.data.toList.map byV).length = s.size := by rw [List.length_map, Array.length_toList]; rfl
  have hsz : (bytesRow s (grownCap w s.size 0 e)).size = grownCap w s.size 0 e := by
    simp only [bytesRow, Array.size_append, Array.size_map, Array.size_replicate]
    have : s.data.size = s.size := rfl
    omega
  refine ⟨_, _, run_bytes_of_string w src dst e s hs hd he, ((Below.refl _ w).drew).alloc (Nat.le_refl _) _, bytesRow s (grownCap w s.size 0 e), _, heap_alloc_new w.drew _, hsz, by rw [hsz]; exact Nat.le_refl _, hc, ?_⟩
  rw [← hl]
  simp only [bytesRow, Array.toList_append, Array.toList_map]
  exact List.take_left

/-- an append whose run is known -/
theorem step_append_as {ops : Array Oper} {Q : Exit → Act → World → Prop} {a : Act} {rest : List Oper} {o : Oper} {s x : Operand} {t : TypeId} {v y r : Value} {w' : World} (hrun : (Builtin.append_ #[t, t] o.type #[v, y]).run P w = .ok r w') (hop : o.op = .call { callee := .builtin .append, args := #[s, x], argTypes := #[t, t] }) (hg : o.guard = none)
    (hs : a.eval s = v) (hy : a.eval x = y) (h : wpList P ops Q rest (a.put o.dst r) w') : wpList P ops Q (o :: rest) a w := by
  refine wpList_plain hg fun K hK' => ?_
  unfold Oper.wp
  simp [execOp, hop, resolve, invoke, builtin, hs, hy, hrun, Result.andThen]
  exact hK' _ _ h

end Go.Proofs.YtpkelaklajplnaaDoor.Kit
