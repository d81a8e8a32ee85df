/- All modes saved and restored: plain laws. No condition. -/
import Derived.Test.YtllloedhlcdbjaaSvN
import Derived.Test.YtllloedhlcdbjaaPMoL
namespace Go.Proofs.Ytllloedhlcdbjaa
set_option linter.unusedVariables false
set_option linter.unusedSimpArgs false
open Go

def tOn (m : Md) (x : Int) : Bool := decide (getM m true x = 1)
def vOn (m : Md) (x : Int) : Int := if getM m true x = 1 then 1 else 2
theorem vOn_eq (m : Md) (x : Int) : (vOn m x == 1) = tOn m x := by unfold vOn tOn; split <;> simp [*]
theorem vOn_or (m : Md) (x : Int) : vOn m x = 1 ∨ vOn m x = 2 := by unfold vOn; split <;> simp
theorem pairs_own : pairsL ownL = [(0, 1), (1, 9), (2, 66), (3, 67), (4, 1000), (5, 1002), (6, 1003), (7, 1004), (8, 1005), (9, 1006), (10, 1015), (11, 2004)] := by decide
theorem save_own (m : Md) : saveL m zero12 ownL = [vOn m 1, vOn m 9, vOn m 66, vOn m 67, vOn m 1000, vOn m 1002, vOn m 1003, vOn m 1004, vOn m 1005, vOn m 1006, vOn m 1015, vOn m 2004] := by
  unfold saveL
  rw [pairs_own]
  rfl
theorem stepR_on (s : List Int) (n m : Md) (j : Fin 12) (x : Int) (h : s.getD j.val 0 = vOn m x) : stepR s n (j, x) = (setM n true x (tOn m x)).1 := by
  unfold stepR
  simp only [h]
  rw [if_pos (vOn_or m x), vOn_eq]
theorem rest_own (m n : Md) : restL (saveL m zero12 ownL) n ownL = ⟨tOn m 1, tOn m 66, tOn m 67, tOn m 1004, tOn m 2004, n.lock, n.line, oneM (oneM (oneM (oneM n.mouse 9 (tOn m 9)) 1000 (tOn m 1000)) 1002 (tOn m 1002)) 1003 (tOn m 1003), oneM (oneM (oneM n.coding 1005 (tOn m 1005)) 1006 (tOn m 1006)) 1015 (tOn m 1015), n.other⟩ := by
  rw [save_own]
  unfold restL
  rw [pairs_own]
  simp only [List.foldl_cons, List.foldl_nil]
  rw [stepR_on _ _ m 0 1 rfl, stepR_on _ _ m 1 9 rfl, stepR_on _ _ m 2 66 rfl, stepR_on _ _ m 3 67 rfl, stepR_on _ _ m 4 1000 rfl, stepR_on _ _ m 5 1002 rfl, stepR_on _ _ m 6 1003 rfl, stepR_on _ _ m 7 1004 rfl, stepR_on _ _ m 8 1005 rfl, stepR_on _ _ m 9 1006 rfl, stepR_on _ _ m 10 1015 rfl, stepR_on _ _ m 11 2004 rfl]
  rfl
theorem get_flag' (m : Md) (x : Int) (p : Bool) (i : Nat) (h : flagIx p x = some i) : getM m p x = if (setFlag m i true) = m then 1 else 2 := by
  unfold getM setM
  rw [h]
  simp
theorem get_choice (m : Md) (x : Int) (i : Nat) (h0 : flagIx true x = none) (h : choiceIx true x = some i) : getM m true x = if (setChoice m i x true) = m then 1 else 2 := by
  unfold getM setM
  rw [h0, h]
  simp
theorem tOn_1 (m : Md) : tOn m 1 = m.cursor ∧ tOn m 66 = m.keypad ∧ tOn m 67 = m.back ∧ tOn m 1004 = m.focus ∧ tOn m 2004 = m.paste := by
  obtain ⟨a0, a1, a2, a3, a4, a5, a6, a7, a8, a9⟩ := m
  unfold tOn
  rw [get_flag' _ 1 true 0 rfl, get_flag' _ 66 true 1 rfl, get_flag' _ 67 true 2 rfl, get_flag' _ 1004 true 3 rfl, get_flag' _ 2004 true 4 rfl]
  refine ⟨?_, ?_, ?_, ?_, ?_⟩
  · cases a0 <;> simp [setFlag]
  · cases a1 <;> simp [setFlag]
  · cases a2 <;> simp [setFlag]
  · cases a3 <;> simp [setFlag]
  · cases a4 <;> simp [setFlag]
theorem tOn_mouse (m : Md) (x : Int) (h0 : flagIx true x = none) (h : choiceIx true x = some 7) : tOn m x = decide (m.mouse = x) := by
  obtain ⟨a0, a1, a2, a3, a4, a5, a6, a7, a8, a9⟩ := m
  unfold tOn
  rw [get_choice _ x 7 h0 h]
  by_cases e : a7 = x
  · simp [setChoice, oneM, e]
  · have : ¬ x = a7 := fun h => e h.symm
    simp [setChoice, oneM, e, this]
theorem tOn_coding (m : Md) (x : Int) (h0 : flagIx true x = none) (h : choiceIx true x = some 8) : tOn m x = decide (m.coding = x) := by
  obtain ⟨a0, a1, a2, a3, a4, a5, a6, a7, a8, a9⟩ := m
  unfold tOn
  rw [get_choice _ x 8 h0 h]
  by_cases e : a8 = x
  · simp [setChoice, oneM, e]
  · have : ¬ x = a8 := fun h => e h.symm
    simp [setChoice, oneM, e, this]
theorem may_sets {m : Md} (h : mayM m = true) : (m.mouse = 0 ∨ m.mouse = 9 ∨ m.mouse = 1000 ∨ m.mouse = 1002 ∨ m.mouse = 1003) ∧ (m.coding = 0 ∨ m.coding = 1005 ∨ m.coding = 1006 ∨ m.coding = 1015) := by
  simp only [mayM, isMouse, isCoding, Bool.and_eq_true, Bool.or_eq_true, beq_iff_eq] at h
  exact ⟨h.1, h.2.1⟩
theorem all_back (m n : Md) (hm : mayM m = true) (hn : mayM n = true) : restL (saveL m zero12 ownL) n ownL = { m with lock := n.lock, line := n.line, other := n.other } := by
  obtain ⟨h1, h2⟩ := may_sets hm
  obtain ⟨g1, g2⟩ := may_sets hn
  obtain ⟨e1, e2, e3, e4, e5⟩ := tOn_1 m
  rw [rest_own, e1, e2, e3, e4, e5, tOn_mouse m 9 rfl rfl, tOn_mouse m 1000 rfl rfl, tOn_mouse m 1002 rfl rfl, tOn_mouse m 1003 rfl rfl, tOn_coding m 1005 rfl rfl, tOn_coding m 1006 rfl rfl, tOn_coding m 1015 rfl rfl]
  have k1 : oneM (oneM (oneM (oneM n.mouse 9 (decide (m.mouse = 9))) 1000 (decide (m.mouse = 1000))) 1002 (decide (m.mouse = 1002))) 1003 (decide (m.mouse = 1003)) = m.mouse := by
    rcases h1 with h | h | h | h | h <;> rcases g1 with g | g | g | g | g <;> rw [h, g] <;> decide
  have k2 : oneM (oneM (oneM n.coding 1005 (decide (m.coding = 1005))) 1006 (decide (m.coding = 1006))) 1015 (decide (m.coding = 1015)) = m.coding := by
    rcases h2 with h | h | h | h <;> rcases g2 with g | g | g | g <;> rw [h, g] <;> decide
  rw [k1, k2]

end Go.Proofs.Ytllloedhlcdbjaa
