/- '==' of what was saved. No condition. -/
import Derived.Test.YtllloedhlcdbjaaSvC
import Derived.ChangeKeysEq
namespace Go.Proofs.Ytllloedhlcdbjaa
set_option linter.unusedVariables false
set_option linter.unusedSimpArgs false
open Go.RowKit Kit

theorem part_u8 (xs : List Int) (i : Nat) (h : i < xs.length) (w : World) : (part 5 (u8s xs).toArray (i * 1)).run Try.prog w = .ok (.int .u8 (xs.getD i 0)) w := by
  have hx : (u8s xs)[i]? = some (.int .u8 (xs.getD i 0)) := by simp [h, List.getD]
  have h1 := Try.isAgg5 w
  simp [part, Sem.run_bind, h1, hx, h, Sem.run, Result.andThen, List.getD]
theorem eqItems_u8 (d : Nat) (xs ys : List Int) (w : World) : ∀ (is : List Nat), (∀ i ∈ is, i < xs.length ∧ i < ys.length) →
    (Op.eqItems (d + 1) 5 1 (u8s xs).toArray (u8s ys).toArray is).run Try.prog w = .ok (is.all fun i => xs.getD i 0 == ys.getD i 0) w
  | [], _ => by simp [Op.eqItems]
  | i :: is, h => by
    have hi := h i (by simp)
    have ih := eqItems_u8 d xs ys w is (fun j hj => h j (by simp [hj]))
    have e : (Op.equalIn (d + 1) 5 (.int .u8 (xs.getD i 0)) (.int .u8 (ys.getD i 0))).run Try.prog w = .ok (xs.getD i 0 == ys.getD i 0) w := by go_simp
    simp only [Op.eqItems, Sem.run_bind, part_u8 xs i hi.1, part_u8 ys i hi.2, Result.andThen_ok, e]
    rw [List.all_cons]
    cases hb : xs.getD i 0 == ys.getD i 0
    · simp only [Bool.not_false, if_true, Sem.run_pure, Bool.false_and]
    · simp only [Bool.not_true, Bool.false_eq_true, if_false, Bool.true_and]
      exact ih
theorem all_same (xs ys : List Int) (hx : xs.length = 12) (hy : ys.length = 12) : ((List.range 12).all fun i => xs.getD i 0 == ys.getD i 0) = decide (xs = ys) := by
  rw [Bool.eq_iff_iff, decide_eq_true_iff, List.all_eq_true]
  constructor
  · intro h
    apply List.ext_getElem (by omega)
    intro i h1 h2
    have := h i (List.mem_range.2 (by omega))
    simpa [List.getD, h1, h2] using this
  · rintro rfl i _
    simp
theorem equal_saved (xs ys : List Int) (hx : xs.length = 12) (hy : ys.length = 12) (w : World) : (Op.equal 39 (.agg (u8s xs).toArray) (.agg (u8s ys).toArray)).run Try.prog w = .ok (decide (xs = ys)) w := by
  obtain ⟨i, hi⟩ : ∃ i, Try.prog.info? 5 = some i := ⟨_, rfl⟩
  rw [← all_same xs ys hx hy]
  refine (run_equalIn_array (P := Try.prog) (w := w) _ (u8s xs).toArray (u8s ys).toArray Try.underlying39 hi).trans ?_
  rw [show Try.prog.cellsOf 5 = 1 by kernel_rfl]
  exact eqItems_u8 _ xs ys w _ (fun i hi => by have := List.mem_range.1 hi; omega)
theorem equal_saved' (xs ys : List Int) (hx : xs.length = 12) (hy : ys.length = 12) (w : World) : (Op.equal 38 (.agg (u8s xs).toArray) (.agg (u8s ys).toArray)).run Try.prog w = .ok (decide (xs = ys)) w := by
  obtain ⟨i, hi⟩ : ∃ i, Try.prog.info? 5 = some i := ⟨_, rfl⟩
  rw [← all_same xs ys hx hy]
  refine (run_equalIn_array (P := Try.prog) (w := w) _ (u8s xs).toArray (u8s ys).toArray Try.underlying38 hi).trans ?_
  rw [show Try.prog.cellsOf 5 = 1 by kernel_rfl]
  exact eqItems_u8 _ xs ys w _ (fun i hi => by have := List.mem_range.1 hi; omega)

end Go.Proofs.Ytllloedhlcdbjaa
