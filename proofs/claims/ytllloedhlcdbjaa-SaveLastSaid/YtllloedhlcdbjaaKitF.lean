/- Slices that are read, grown, turned into strings: words and laws of the walk. No condition. -/
import Derived.Test.YtllloedhlcdbjaaProg
import Derived.Below
import Derived.OwnWalk
import Derived.Laws.AppendOwn
import Derived.Laws.AppendOwnNone
import Derived.Laws.IdiomStrings
import Derived.Laws.BytesArg
import Derived.Deep.AppendLies
import Derived.WalkKit
import Derived.Lib.Hide
namespace Go.Proofs.Ytllloedhlcdbjaa.Kit
set_option linter.unusedVariables false
set_option linter.unusedSimpArgs false
open Go Go.RowKit

theorem sizeAlloc (w : World) (o : Obj) : (w.alloc o).drew.heap.size = w.heap.size + 1 := by
  show (w.heap.push o).size = _
  simp
theorem sizeAlloc' (w : World) (o : Obj) : (w.alloc o).heap.size = w.heap.size + 1 := by
  show (w.heap.push o).size = _
  simp
/-- a byte as a cell -/
def byV (c : UInt8) : Value := .int .u8 (c.toNat : Int)
theorem byV_one (l : List UInt8) : ∀ u ∈ l.map byV, u.oneCell' = true := by
  intro u hu
  obtain ⟨c, _, rfl⟩ := List.mem_map.1 hu
  rfl

/-- the elements, read from the address p on, are xs: a slice that is only read -/
def Reads (w : World) (p : Option Addr) (xs : List Value) : Prop := ∀ k x, xs[k]? = some x → ∃ b o, p = some ⟨b, o, none⟩ ∧ w.cell? ⟨b, o + k, none⟩ = some x
theorem Reads.below {w w' : World} {p : Option Addr} {xs : List Value} (h : Reads w p xs) (hb : Below w.heap.size w w') : Reads w' p xs := by
  intro k x hk
  obtain ⟨b, o, hp, hc⟩ := h k x hk
  exact ⟨b, o, hp, by rw [hb.cell (World.block_lt_of_cell? w _ hc)]; exact hc⟩
theorem Reads.below' {B : Nat} {w w' : World} {p : Option Addr} {xs : List Value} (h : Reads w p xs) (hb : Below B w w') (hB : w.heap.size ≤ B) : Reads w' p xs := h.below (hb.mono hB)
theorem Reads.nil (w : World) (p : Option Addr) : Reads w p [] := by intro k x hk; simp at hk
theorem Reads.row {w : World} {g : Nat} {cur : Array Value} {e : TypeId} {fr : Nat × Nat} {n : Nat} {xs : List Value} (h : w.heap[g]? = some (.cells cur e fr)) (hx : cur.toList.take n = xs) : Reads w (some ⟨g, 0, none⟩) xs := by
  intro k x hk
  refine ⟨g, 0, rfl, ?_⟩
  subst hx
  rw [List.getElem?_take] at hk
  split at hk
  · simp [World.cell?, h]
    simpa using hk
  · simp at hk
theorem _root_.Go.World.ownsRow.reads {w : World} {B : Nat} {e : TypeId} {v : Value} {n : Nat} {xs : List Value} (h : w.ownsRow B e 1 v n xs) : ∃ p c, v = .slice p n c ∧ Reads w p xs ∧ n ≤ c ∧ c ≤ maxLen := by
  rcases h.2 with ⟨rfl, rfl⟩ | ⟨g, cap, cur, rfl, _, hg, hc, hm, _, ht⟩
  · have : xs = [] := List.eq_nil_of_length_eq_zero (by simpa using h.1)
    subst this
    exact ⟨none, 0, rfl, Reads.nil _ _, Nat.le_refl _, Nat.zero_le _⟩
  · exact ⟨_, _, rfl, Reads.row hg (n := n) (by simpa using ht), hc, hm⟩
theorem Reads.byte {w : World} {p : Option Addr} {l : List UInt8} (h : Reads w p (l.map byV)) {k : Nat} (hk : k < l.length) :
    ∃ b o, p = some ⟨b, o, none⟩ ∧ w.cell? ⟨b, o + k, none⟩ = some (.int .u8 ((l[k]?.getD 0).toNat : Int)) := by
  obtain ⟨b, o, h1, h2⟩ := h k (byV (l[k]?.getD 0)) (by simp [List.getElem?_eq_getElem hk])
  exact ⟨b, o, h1, h2⟩
theorem Reads.int {w : World} {p : Option Addr} {l : List Int} (h : Reads w p (l.map (Value.int .i64))) {k : Nat} (hk : k < l.length) :
    ∃ b o, p = some ⟨b, o, none⟩ ∧ w.cell? ⟨b, o + k, none⟩ = some (.int .i64 (l[k]?.getD 0)) := by
  obtain ⟨b, o, h1, h2⟩ := h k (.int .i64 (l[k]?.getD 0)) (by simp [List.getElem?_eq_getElem hk])
  exact ⟨b, o, h1, h2⟩

variable {P : Program} {ops : Array Oper} {Q : Exit → Act → World → Prop} {a : Act} {w : World} {rest : List Oper} {o : Oper}

/-- 'string(b)' -/
theorem run_str_of {src dst e : TypeId} {p : Option Addr} {n c : Nat} {l : List UInt8} (hs : P.underlying src = some (.slice e)) (he : P.underlying e = some (.int .u8)) (hd : P.underlying dst = some .string)
    (hr : Reads w p (l.map byV)) (hn : l.length = n) : (convert src dst (.slice p n c)).run P w = .ok (.string ⟨l.toArray⟩) w := by
  subst hn
  cases p with
  | none =>
    have : l = [] := by
      cases l with
      | nil => rfl
      | cons x l => obtain ⟨b, o, h, _⟩ := hr 0 _ rfl; cases h
    subst this
    rw [run_convert_bytes_nil w src e hs he _ _ dst hd]
    rfl
  | some ad =>
    refine run_convert_bytes_back w src dst e ad c l hs he hd fun j hj => ?_
    obtain ⟨b, o, h1, h2⟩ := hr j (byV l[j]) (by simp [hj])
    cases h1
    have hadd : (⟨b, o, none⟩ : Addr).add j = ⟨b, o + j, none⟩ := by unfold Addr.add; split <;> simp_all
    rw [hadd]
    exact h2

/-- '[]byte(s)': a new row, its bytes s's. -/
theorem run_bytes_of {src dst e : TypeId} {s : ByteArray} (hs : P.underlying src = some .string) (hd : P.underlying dst = some (.slice e)) (he : P.underlying e = some (.int .u8)) :
    ∃ c w', (convert src dst (.string s)).run P w = .ok (.slice (some ⟨w.heap.size, 0, none⟩) s.size c) w' ∧ s.size ≤ c ∧ Below w.heap.size w w' ∧ Reads w' (some ⟨w.heap.size, 0, none⟩) (s.data.toList.map byV) := by
  refine ⟨_, _, run_bytes_of_string w src dst e s hs hd he, grownCap_ge _ _ _ _, ((Below.refl _ w).drew).alloc (Nat.le_refl _) _, ?_⟩
  refine Reads.row (heap_alloc_new w.drew _) (n := s.size) ?_
  have hl : (s.data.toList.map byV).length = s.size := by rw [List.length_map, Array.length_toList]; rfl
  rw [← hl]
  simp only [bytesRow, Array.toList_append, Array.toList_map]
  exact List.take_left

end Go.Proofs.Ytllloedhlcdbjaa.Kit
