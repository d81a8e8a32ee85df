/- Literals of rows as blocks of the call's own. No condition. -/
import Derived.Test.YtllloedhlcdbjaaKitH
import Derived.Test.YtllloedhlcdbjaaKitG
namespace Go.Proofs.Ytllloedhlcdbjaa.Kit
set_option linter.unusedVariables false
set_option linter.unusedSimpArgs false
open Go Go.RowKit Go.Proofs.YtllloedhlcdbjaaW.PrintWords
section
variable {P : Program} {ops : Array Oper} {Q : Exit → Act → World → Prop} {a : Act} {w W0 : World} {rest : List Oper} {o : Oper} {bs : Res}
/-- the goal stands at the operation that gives N -/
theorem gateAt {N : Tmp} (hd : o.dst = some N) (h : wpList P ops Q (o :: rest) a w) : wpList P ops Q (o :: rest) a w := h
/-- a literal row -/
theorem own_lit (HO : Mine W0 w bs) (hgd : Region.wanted o (yielded ops a.tmps) = true) {n : Nat} {cs : List Value} {T : TypeId}
    (hrun : (execOp a.eval o).run P w = .ok (.value (.slice (some ⟨w.heap.size, 0, none⟩) n n)) (w.alloc (.cells cs.toArray T)))
    (h : ∀ g w', W0.heap.size ≤ g → Mine W0 w' (bs ++ [(g, IsCells cs T)]) → wpList P ops Q rest (a.put o.dst (.slice (some ⟨g, 0, none⟩) n n)) w') : wpList P ops Q (o :: rest) a w :=
  wpList_want hgd fun _ hK => by
    unfold Oper.wp
    rw [hrun]
    exact hK _ _ (h _ _ HO.below.size (HO.new _ _ rfl))
end
/-- one row in a row -/
theorem lit_row {w : World} {g1 g2 : Nat} {xs : List Int} {n : Nat} (hn : xs.length = n) (hm : n ≤ 1000) (h1 : w.heap[g1]? = some (.cells (xs.map (Value.int .i64)).toArray 3 (0, 0))) (h2 : w.heap[g2]? = some (.cells [Value.slice (some ⟨g1, 0, none⟩) n n].toArray 28 (0, 0))) :
    (Kd.slice 3 (Kd.int .i64)).C w (some ⟨g2, 0, none⟩) [xs].length [xs] := by
  subst hn
  refine ⟨rfl, by simp, fun _ => ⟨⟨g2, 0, none⟩, rfl, fun j x hj => ?_⟩⟩
  cases j with
  | zero =>
    obtain rfl : xs = x := by simpa using hj
    refine ⟨[.slice (some ⟨g1, 0, none⟩) xs.length xs.length], rfl, ⟨some ⟨g1, 0, none⟩, xs.length, rfl, Nat.le_refl _, ?_⟩, fun i u hu => ?_⟩
    · refine Kd.C_of_reads (d := (0 : Int)) ⟨rfl, by omega, fun h0 => ⟨⟨g1, 0, none⟩, rfl, fun i hi => ?_⟩⟩
      have : (⟨g1, 0, none⟩ : Addr).add i = ⟨g1, 0 + i, none⟩ := by unfold Addr.add; split <;> simp_all
      rw [this]
      simp [World.cell?, h1, hi, List.getD]
    · cases i with
      | zero =>
        have hu' : u = .slice (some ⟨g1, 0, none⟩) xs.length xs.length := by simpa using hu.symm
        subst hu'
        simp [World.cell?, h2, Addr.add]
      | succ i => simp at hu
  | succ j => simp at hj
/-- a row of whole numbers -/
theorem lit_ints {w : World} {g : Nat} {xs : List Int} (h : w.heap[g]? = some (.cells (xs.map (Value.int .i64)).toArray 3 (0, 0))) (hm : xs.length ≤ 1000) : (Kd.int .i64).C w (some ⟨g, 0, none⟩) xs.length xs := by
  refine Kd.C_of_reads (d := (0 : Int)) ⟨rfl, by omega, fun h0 => ⟨⟨g, 0, none⟩, rfl, fun i hi => ?_⟩⟩
  have : (⟨g, 0, none⟩ : Addr).add i = ⟨g, 0 + i, none⟩ := by unfold Addr.add; split <;> simp_all
  rw [this]
  simp [World.cell?, h, hi, List.getD]
end Go.Proofs.Ytllloedhlcdbjaa.Kit
