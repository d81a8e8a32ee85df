/- The walk of layer 7: save.places and its iterator. No condition. -/
import Derived.Test.YtllloedhlcdbjaaOwA
import Derived.Test.YtllloedhlcdbjaaMoA
import Derived.Test.YtllloedhlcdbjaaKitL
import Derived.Test.YtllloedhlcdbjaaWWords
import Derived.RangeFuncBox
import Derived.RangeFuncLeaves
import Derived.RangeFuncNested
import Derived.RangeFuncBound
import Derived.Shelf.Abstract
import Derived.Shelf.RegionOpen
import Derived.OwnWalkIn
import Derived.TacticsInMore
import Derived.LoopNIn
import Derived.LoopIn
namespace Go.Proofs.Ytllloedhlcdbjaa
set_option linter.unusedVariables false
set_option linter.unusedSimpArgs false
open Go.RowKit Kit Go.Shelf Go.Proofs.YtllloedhlcdbjaaW.PrintWords

/-- what lies in a block -/
def HasCells (w : World) (g : Nat) (cs : List Value) (T : TypeId) : Prop := w.heap[g]? = some (.cells cs.toArray T (0, 0))
/-- only block g has turned, of those that were there -/
structure Keep (g : Nat) (A B : World) : Prop where
  size : A.heap.size ≤ B.heap.size
  same : ∀ k, k < A.heap.size → k ≠ g → B.heap[k]? = A.heap[k]?
theorem Keep.refl (g : Nat) (A : World) : Keep g A A := ⟨Nat.le_refl _, fun _ _ _ => rfl⟩
theorem Keep.below {g : Nat} {A B C : World} (h : Keep g A B) (hb : Below B.heap.size B C) : Keep g A C :=
  ⟨Nat.le_trans h.size hb.size, fun k hk hne => (hb.block k (Nat.lt_of_lt_of_le hk h.size)).trans (h.same k hk hne)⟩
/-- what an iterator asks of a round: what lay below n1, but for block g, lies as it lay -/
def Kp (n1 g : Nat) (A B : World) : Prop := ∀ k o, k < n1 → k ≠ g → A.heap[k]? = some o → B.heap[k]? = some o
theorem Kp.refl (n1 g : Nat) (A : World) : Kp n1 g A A := fun _ _ _ _ h => h
theorem Kp.trans {n1 g : Nat} {A B C : World} (h : Kp n1 g A B) (k : Kp n1 g B C) : Kp n1 g A C := fun i o h1 h2 h3 => k i o h1 h2 (h i o h1 h2 h3)
theorem Keep.kp {g : Nat} {A B : World} (h : Keep g A B) (n1 : Nat) : Kp n1 g A B := fun k o _ h2 h3 => (h.same k (Array.getElem?_eq_some_iff.1 h3).1 h2).trans h3
theorem Keep.from {g B0 : Nat} {A B : World} (h : Keep g A B) (hg : g < B0) : KeepsFrom B0 A B :=
  ⟨h.size, fun k o hB hk _ => (h.same k (Array.getElem?_eq_some_iff.1 hk).1 (by omega)).trans hk⟩
theorem Kp.cell {n1 g : Nat} {A B : World} (h : Kp n1 g A B) {p : Addr} {v : Value} (hc : A.cell? p = some v) (hp : p.block < n1) (hne : p.block ≠ g) : B.cell? p = some v := by
  have hlt := World.block_lt_of_cell? A _ hc
  have h1 : A.heap[p.block]? = some A.heap[p.block] := by simp [hlt]
  have h2 := h _ _ hp hne h1
  unfold World.cell? at hc ⊢
  rw [h1] at hc
  rw [h2]
  exact hc
theorem HasCells.cell {w : World} {g : Nat} {v : Value} {T : TypeId} (h : HasCells w g [v] T) : w.cell? ⟨g, 0, none⟩ = some v := by
  unfold HasCells at h
  simp [World.cell?, h]

/-- where it stands among the modes, with the number -/
def pairO (n : Int) : Option (Fin 12 × Int) := if h : 0 ≤ idxI ownL n ∧ idxI ownL n < 12 then some (⟨(idxI ownL n).toNat, by omega⟩, n) else none
def pairsL (l : List Int) : List (Fin 12 × Int) := l.filterMap pairO
theorem idx_fin {n : Int} (h : 0 ≤ idxI ownL n) : ∃ j : Fin 12, idxI ownL n = (j.val : Int) ∧ pairO n = some (j, n) := by
  have h2 : idxI ownL n < 12 := (idxI_range ownL n).2
  refine ⟨⟨(idxI ownL n).toNat, by omega⟩, by simp; omega, ?_⟩
  unfold pairO
  rw [dif_pos ⟨h, h2⟩]
theorem idx_none {n : Int} (h : ¬ 0 ≤ idxI ownL n) : pairO n = none := by
  unfold pairO
  rw [dif_neg (fun e => h e.1)]

attribute [local irreducible] wpList Calls wpQuiet
/-- what places hands back -/
def PlAns (W w' : World) (sv : Value) (v : Value) : Prop := ∃ g1 g3 gL cap rest, v = .func (.func 41) #[] #[.pointer (some ⟨g1, 0, none⟩), .pointer (some ⟨g3, 0, none⟩)] ∧ W.heap.size ≤ g1 ∧ W.heap.size ≤ g3 ∧ W.heap.size ≤ gL ∧
  HasCells w' g1 [sv] 28 ∧ HasCells w' g3 [.slice (some ⟨gL, 0, none⟩) 12 cap] 28 ∧ HasCells w' gL (ownL.map (Value.int .i64) ++ rest) 3 ∧ 12 ≤ cap
set_option maxRecDepth 100000 in
set_option maxHeartbeats 4000000 in
theorem places_calls (A : Option Addr) (n c : Nat) (w : World) : Calls Try.prog 31 #[.slice A n c] w fun e w' => ∃ v, e = .returned v ∧ PlAns w w' (.slice A n c) v ∧ Below w.heap.size w w' := by
  have HO := Mine.start w
  go_enter Try.func31, Try.ntmps31
  go_wp2_with (first
      | (go_at_call 14; refine (own_calls _).mono ?_; rintro eN wN ⟨v, rfl, ⟨gL, cpgL, rsL, rfl, hge, hgL, hcp⟩, hbN⟩; have HCP := Lib.hid hcp; clear hcp; have HON := (HO.call hbN).take (p := IsCells (Value.int .i64 1 :: Value.int .i64 9 :: Value.int .i64 66 :: Value.int .i64 67 :: Value.int .i64 1000 :: Value.int .i64 1002 :: Value.int .i64 1003 :: Value.int .i64 1004 :: Value.int .i64 1005 :: Value.int .i64 1006 :: Value.int .i64 1015 :: Value.int .i64 2004 :: rsL) 3) (fun q hq => HO.lt hq) HO.below.size hge ⟨_, hgL, rfl⟩; clear HO hbN hgL hge; have HO := HON; clear HON; (simp only [List.nil_append, List.cons_append] at HO))
      | ((with_reducible refine gate ?_); (first
      | ((refine own_box HO rfl rfl rfl ?_); clear HO; intro gB wN hgN HO; (simp only [List.nil_append, List.cons_append] at HO); (try simp only [Act.put, List.setIfInBounds_toArray, List.set_cons_zero, List.set_cons_succ]))
      | ((refine own_alloc (T := 28) HO rfl rfl Try.zeroValue28 rfl ?_); clear HO; intro gA wN hgA HO; (simp only [List.nil_append, List.cons_append] at HO); (try simp only [Act.put, List.setIfInBounds_toArray, List.set_cons_zero, List.set_cons_succ]))
      | ((refine own_load1 (T := 28) HO rfl rfl rfl (by first | exact .head _ | exact .tail _ (.head _) | exact .tail _ (.tail _ (.head _)) | exact .tail _ (.tail _ (.tail _ (.head _))) | exact .tail _ (.tail _ (.tail _ (.tail _ (.head _)))) | exact .tail _ (.tail _ (.tail _ (.tail _ (.tail _ (.head _)))))) Try.isAgg28 rfl ?_); (try simp only [Act.put, List.setIfInBounds_toArray, List.set_cons_zero, List.set_cons_succ]))
      | ((refine own_store (T := 28) HO rfl rfl rfl rfl (by first | exact .here | exact .there (.here) | exact .there (.there (.here)) | exact .there (.there (.there (.here))) | exact .there (.there (.there (.there (.here)))) | exact .there (.there (.there (.there (.there (.here)))))) Try.sizeOf28 (by repeat constructor) rfl ?_); clear HO; intro wN HO; (try simp only [Act.put, List.setIfInBounds_toArray, List.set_cons_zero, List.set_cons_succ])))))
  go_ret
  exact ⟨_, rfl, ⟨gB, gA, gL, cpgL, rsL, rfl, (HO.held _ (.head _)).1, (HO.held _ (.tail _ (.tail _ (.head _)))).1, (HO.held _ (.tail _ (.head _))).1, HO.at (.head _), HO.at (.tail _ (.tail _ (.head _))), HO.at (.tail _ (.head _)), HCP.out⟩, HO.below⟩

end Go.Proofs.Ytllloedhlcdbjaa
