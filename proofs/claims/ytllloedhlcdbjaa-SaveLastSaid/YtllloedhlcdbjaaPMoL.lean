/- Plain laws of the modes: set twice, told as set, apart. No program. No condition. -/
import Derived.Test.YtllloedhlcdbjaaPMo
namespace Go.Proofs.Ytllloedhlcdbjaa

theorem flagIx_lt' {p : Bool} {n : Int} {i : Nat} (h : flagIx p n = some i) : i = 0 ∨ i = 1 ∨ i = 2 ∨ i = 3 ∨ i = 4 ∨ i = 5 ∨ i = 6 := by
  unfold flagIx at h
  repeat' split at h
  all_goals simp at h <;> omega
theorem choiceIx_spec {p : Bool} {n : Int} {i : Nat} (h : choiceIx p n = some i) : p = true ∧ ((i = 7 ∧ isMouse n = true) ∨ (i = 8 ∧ isCoding n = true)) := by
  unfold choiceIx at h
  repeat' split at h
  all_goals simp at h
  · subst h; exact ⟨by assumption, .inl ⟨rfl, by assumption⟩⟩
  · subst h; exact ⟨by assumption, .inr ⟨rfl, by assumption⟩⟩
theorem isMouse_ne {n : Int} (h : isMouse n = true) : n ≠ 0 := by
  intro e; subst e; simp [isMouse] at h
theorem isCoding_ne {n : Int} (h : isCoding n = true) : n ≠ 0 := by
  intro e; subst e; simp [isCoding] at h

theorem setM_none {m : Md} {p : Bool} {n : Int} {on : Bool} (h : (setM m p n on).2 = false) : (setM m p n on).1 = m ∧ ∀ m' on', setM m' p n on' = (m', false) := by
  unfold setM at h ⊢
  cases hf : flagIx p n with
  | some i => simp [hf] at h
  | none =>
    cases hc : choiceIx p n with
    | some i => simp [hf, hc] at h
    | none => simp
theorem setM_some {m : Md} {p : Bool} {n : Int} {on : Bool} (h : (setM m p n on).2 = true) : ∀ m' on', (setM m' p n on').2 = true := by
  intro m' on'
  unfold setM at h ⊢
  cases hf : flagIx p n with
  | some i => simp
  | none =>
    cases hc : choiceIx p n with
    | some i => simp
    | none => simp [hf, hc] at h
theorem fixedM_ne (p : Bool) (n : Int) : fixedM p n ≠ 1 ∧ fixedM p n ≠ 2 := by
  unfold fixedM
  repeat' split
  all_goals simp
theorem getM_none {m : Md} {p : Bool} {n : Int} {on : Bool} (h : (setM m p n on).2 = false) : getM m p n ≠ 1 ∧ getM m p n ≠ 2 := by
  have e := (setM_none h).2 m true
  have : getM m p n = fixedM p n := by simp [getM, e]
  rw [this]
  exact fixedM_ne p n

theorem setM_cases (m : Md) (p : Bool) (n : Int) (on : Bool) :
    (∃ i, flagIx p n = some i ∧ setM m p n on = (setFlag m i on, true)) ∨ (flagIx p n = none ∧ ∃ i, choiceIx p n = some i ∧ setM m p n on = (setChoice m i n on, true)) ∨ (flagIx p n = none ∧ choiceIx p n = none ∧ setM m p n on = (m, false)) := by
  cases hf : flagIx p n with
  | some i => exact .inl ⟨i, rfl, by simp [setM, hf]⟩
  | none =>
    cases hc : choiceIx p n with
    | some i => exact .inr (.inl ⟨rfl, i, rfl, by simp [setM, hf, hc]⟩)
    | none => exact .inr (.inr ⟨rfl, rfl, by simp [setM, hf, hc]⟩)

theorem oneM_twice (was n : Int) (hn : n ≠ 0) (on : Bool) : oneM (oneM was n on) n on = oneM was n on := by
  cases on
  · simp only [oneM, Bool.false_eq_true, if_false]
    by_cases h : was = n
    · simp [h, Ne.symm hn]
    · simp [h]
  · rfl
theorem oneM_off (was n : Int) (hn : n ≠ 0) : oneM was n false ≠ n := by
  simp only [oneM, Bool.false_eq_true, if_false]
  by_cases h : was = n
  · simp [h, Ne.symm hn]
  · simp [h]

theorem setM_twice {m : Md} {p : Bool} {n : Int} {on : Bool} (h : (setM m p n on).2 = true) : setM (setM m p n on).1 p n on = ((setM m p n on).1, true) := by
  rcases setM_cases m p n on with ⟨i, hf, e⟩ | ⟨hf, i, hc, e⟩ | ⟨_, _, e⟩
  · rw [e]
    simp only [setM, hf]
    rcases flagIx_lt' hf with rfl | rfl | rfl | rfl | rfl | rfl | rfl <;> rfl
  · rw [e]
    simp only [setM, hf, hc]
    rcases (choiceIx_spec hc).2 with ⟨rfl, hm⟩ | ⟨rfl, hm⟩
    · simp only [setChoice, oneM_twice _ _ (isMouse_ne hm)]
    · simp only [setChoice, oneM_twice _ _ (isCoding_ne hm)]
  · rw [e] at h; cases h
theorem getM_set {m : Md} {p : Bool} {n : Int} {on : Bool} (h : (setM m p n on).2 = true) : getM (setM m p n on).1 p n = if on then 1 else 2 := by
  cases on
  · have h2 : (setM (setM m p n false).1 p n true).2 = true := setM_some h _ _
    have hne : (setM (setM m p n false).1 p n true).1 ≠ (setM m p n false).1 := by
      rcases setM_cases m p n false with ⟨i, hf, e⟩ | ⟨hf, i, hc, e⟩ | ⟨_, _, e⟩
      · rw [e]
        simp only [setM, hf]
        rcases flagIx_lt' hf with rfl | rfl | rfl | rfl | rfl | rfl | rfl <;> simp [setFlag]
      · rw [e]
        simp only [setM, hf, hc]
        rcases (choiceIx_spec hc).2 with ⟨rfl, hm⟩ | ⟨rfl, hm⟩
        · simp only [setChoice]
          intro he
          have : oneM (oneM m.mouse n false) n true = oneM m.mouse n false := congrArg Md.mouse he
          exact oneM_off m.mouse n (isMouse_ne hm) this.symm
        · simp only [setChoice]
          intro he
          have : oneM (oneM m.coding n false) n true = oneM m.coding n false := congrArg Md.coding he
          exact oneM_off m.coding n (isCoding_ne hm) this.symm
      · rw [e] at h; cases h
    simp [getM, h2, hne]
  · have h2 := setM_twice h
    simp [getM, h2]
theorem mayM_set {m : Md} (p : Bool) (n : Int) (on : Bool) (h : mayM m = true) : mayM (setM m p n on).1 = true := by
  rcases setM_cases m p n on with ⟨i, hf, e⟩ | ⟨hf, i, hc, e⟩ | ⟨_, _, e⟩
  · rw [e]
    rcases flagIx_lt' hf with rfl | rfl | rfl | rfl | rfl | rfl | rfl <;> exact h
  · rw [e]
    simp only [mayM, Bool.and_eq_true, Bool.or_eq_true] at h ⊢
    rcases (choiceIx_spec hc).2 with ⟨rfl, hm⟩ | ⟨rfl, hm⟩
    · refine ⟨?_, h.2⟩
      simp only [setChoice, oneM]
      cases on
      · by_cases hx : m.mouse = n
        · simp [hx]
        · simp only [Bool.false_eq_true, if_false, hx]; simpa using h.1
      · exact .inr hm
    · refine ⟨h.1, ?_, h.2.2⟩
      simp only [setChoice, oneM]
      cases on
      · by_cases hx : m.coding = n
        · simp [hx]
        · simp only [Bool.false_eq_true, if_false, hx]; simpa using h.2.1
      · exact .inr hm
  · rw [e]; exact h

/-- Neither of the mouse's modes nor of its codings, and not the same: in whatever turn. -/
theorem setM_turns (m : Md) (a b : Int) (x y : Bool) (hab : a ≠ b) (ha : choiceIx true a = none) :
    (setM (setM m true a x).1 true b y).1 = (setM (setM m true b y).1 true a x).1 := by
  have hA : ∀ m, (setM m true a x).1 = match flagIx true a with | some i => setFlag m i x | none => m := by
    intro m; cases hf : flagIx true a <;> simp [setM, hf, ha]
  rw [hA, hA]
  cases hf : flagIx true a with
  | none => rfl
  | some i =>
    simp only
    have hai : (a = 1 ∧ i = 0) ∨ (a = 66 ∧ i = 1) ∨ (a = 67 ∧ i = 2) ∨ (a = 1004 ∧ i = 3) ∨ (a = 2004 ∧ i = 4) := by
      simp only [flagIx, if_true] at hf
      repeat' split at hf
      all_goals simp at hf <;> omega
    rcases setM_cases m true b y with ⟨j, hg, e⟩ | ⟨hg, j, hc, e⟩ | ⟨hg, hc, e⟩
    · have hbj : (b = 1 ∧ j = 0) ∨ (b = 66 ∧ j = 1) ∨ (b = 67 ∧ j = 2) ∨ (b = 1004 ∧ j = 3) ∨ (b = 2004 ∧ j = 4) := by
        simp only [flagIx, if_true] at hg
        repeat' split at hg
        all_goals simp at hg <;> omega
      rw [e]
      simp only [setM, hg]
      rcases hai with ⟨h1, rfl⟩ | ⟨h1, rfl⟩ | ⟨h1, rfl⟩ | ⟨h1, rfl⟩ | ⟨h1, rfl⟩ <;> rcases hbj with ⟨h2, rfl⟩ | ⟨h2, rfl⟩ | ⟨h2, rfl⟩ | ⟨h2, rfl⟩ | ⟨h2, rfl⟩ <;> first | rfl | (exfalso; exact hab (by omega))
    · rw [e]
      simp only [setM, hg, hc]
      rcases (choiceIx_spec hc).2 with ⟨rfl, _⟩ | ⟨rfl, _⟩ <;> rcases hai with ⟨h1, rfl⟩ | ⟨h1, rfl⟩ | ⟨h1, rfl⟩ | ⟨h1, rfl⟩ | ⟨h1, rfl⟩ <;> rfl
    · rw [e]
      simp [setM, hg, hc]

theorem choiceIx_out (a : Int) (h : a < 9 ∨ 1015 < a) : choiceIx true a = none := by
  have e1 : isMouse a = false := by rw [Bool.eq_false_iff]; intro h2; simp [isMouse] at h2; omega
  have e2 : isCoding a = false := by rw [Bool.eq_false_iff]; intro h2; simp [isCoding] at h2; omega
  simp [choiceIx, e1, e2]

end Go.Proofs.Ytllloedhlcdbjaa
