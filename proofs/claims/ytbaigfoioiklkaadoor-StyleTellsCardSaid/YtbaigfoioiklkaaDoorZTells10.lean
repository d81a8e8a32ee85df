/- Tells: texts run together by shake.py: PuSd. -/
import Derived.Test.YtbaigfoioiklkaaDoorZTells6
import Derived.Test.YtbaigfoioiklkaaDoorZTells8
import Derived.Test.YtbaigfoioiklkaaDoorZTells9
section
namespace Go.Proofs.YtbaigfoioiklkaaDoor.G
set_option linter.unusedVariables false
set_option linter.unusedSimpArgs false
open Go.RowKit Kit Go.Proofs.YtbaigfoioiklkaaDoorW.PrintWords
def paramsV (s : St) : List (List Int) :=
  if mayL s.2.2.2.2.2.2.2.1 s.2.2.2.2.2.2.2.2.1 s.2.2.2.2.2.2.2.2.2 then paramsL s.1 s.2.1 s.2.2.1 s.2.2.2.1 s.2.2.2.2.1 s.2.2.2.2.2.1 s.2.2.2.2.2.2.1 s.2.2.2.2.2.2.2.1 s.2.2.2.2.2.2.2.2.1 s.2.2.2.2.2.2.2.2.2 else []
theorem Params_is (b0 b1 b2 b3 b4 b5 b6 : Bool) (u f b : Int) (hf : -9223372036854775808 ≤ f) (hb : -9223372036854775808 ≤ b) : style_Params.f b0 b1 b2 b3 b4 b5 b6 u f b = some (paramsV (b0, b1, b2, b3, b4, b5, b6, u, f, b)) := by
  unfold style_Params.f paramsV
  rw [may_is]
  cases h : mayL u f b with
  | true => rw [if_pos rfl, if_pos ⟨hf, hb⟩, if_pos rfl]
  | false => rw [if_neg (by decide), if_pos rfl, if_neg (by simp [h])]
theorem refMay_is (b0 b1 b2 b3 b4 b5 b6 : Bool) (u f b : Int) : clavierref18_May.f b0 b1 b2 b3 b4 b5 b6 u f b = some (mayL u f b) := by
  unfold clavierref18_May.f clavierref18_colour.f mayL colL
  by_cases h0 : 0 ≤ u <;> by_cases h1 : u ≤ 5 <;> by_cases h2 : -1 ≤ f <;> by_cases h3 : f < 16777472 <;> by_cases h4 : -1 ≤ b <;> simp [h0, h1, h2, h3, h4, ge_iff_le]
theorem refOne_is (l : List (List Int)) (c : Bool) (n : Int) (hl : l.length ≤ 1000000) : clavierref18_one.f l c n = some (l ++ markL c n) := by
  unfold clavierref18_one.f markL
  cases c with
  | true => rw [if_pos rfl, Option.bind_some, if_pos (by simp; omega), Option.bind_some, if_pos (by simp; omega), List.nil_append]; rfl
  | false => rw [if_neg (by decide)]; simp
theorem refTint_is (l : List (List Int)) (n base : Int) (h0 : -1 ≤ n) (h1 : n < 16777472) (hb : 0 ≤ base) (hb1 : base ≤ 1000) (hl : l.length ≤ 1000) : clavierref18_tint.f l n base = some (l ++ colourL n base) := by
  have w1 : wrap64 (base + n) = base + n := by unfold wrap64; omega
  have w2 : wrap64 (base + 52) = base + 52 := by unfold wrap64; omega
  have w3 : wrap64 (base + 52 + n) = base + 52 + n := by unfold wrap64; omega
  have w4 : wrap64 (base + 8) = base + 8 := by unfold wrap64; omega
  unfold clavierref18_tint.f colourL
  by_cases g0 : n < 0
  · rw [if_pos g0, if_pos (by omega)]; simp
  · rw [if_neg g0, if_neg (show ¬ n = -1 by omega)]
    unfold tintL
    by_cases g1 : n < 8
    · rw [if_pos g1, if_pos g1, w1, refOne_is _ _ _ (by omega)]; rfl
    · rw [if_neg g1, if_neg g1]
      by_cases g2 : n < 16
      · rw [if_pos g2, if_pos g2, w2, w3, refOne_is _ _ _ (by omega)]; rfl
      · rw [if_neg g2, if_neg g2, Option.bind_some, if_pos (by simp; omega), Option.bind_some]
        by_cases g3 : n < 256
        · rw [if_pos g3, if_pos g3, if_pos (by simp; omega), w4, List.nil_append]
        · have w5 : wrap64 (n - 256) = n - 256 := by unfold wrap64; omega
          have t1 : Int.tdiv (n - 256) 65536 = (n - 256) / 65536 := Int.tdiv_eq_ediv_of_nonneg (by omega)
          have t2 : Int.tdiv (n - 256) 256 = (n - 256) / 256 := Int.tdiv_eq_ediv_of_nonneg (by omega)
          have w6 : wrap64 ((n - 256) / 65536) = (n - 256) / 65536 := by unfold wrap64; omega
          have w7 : wrap64 ((n - 256) / 256) = (n - 256) / 256 := by unfold wrap64; omega
          have t3 : Int.tmod ((n - 256) / 256) 256 = (n - 256) / 256 % 256 := Int.tmod_eq_emod_of_nonneg (by omega)
          have t4 : Int.tmod (n - 256) 256 = (n - 256) % 256 := Int.tmod_eq_emod_of_nonneg (by omega)
          rw [if_neg g3, if_neg g3, if_pos (by simp; omega), w4, w5, t1, t2, w6, w7, t3, t4, List.nil_append]
theorem mark_len (c : Bool) (n : Int) : (markL c n).length ≤ 1 := by cases c <;> simp [markL]
theorem refParams_is (b0 b1 b2 b3 b4 b5 b6 : Bool) (u f b : Int) (k : Nat) (hk : 5 ≤ k) : clavierref18_Params.f k b0 b1 b2 b3 b4 b5 b6 u f b = some (paramsV (b0, b1, b2, b3, b4, b5, b6, u, f, b)) := by
  obtain ⟨k, rfl⟩ : ∃ m, k = m + 1 := ⟨k - 1, by omega⟩
  unfold clavierref18_Params.f paramsV
  rw [refMay_is, Option.bind_some]
  cases h : mayL u f b with
  | false => rw [if_neg (by decide), if_neg (by simp [h])]
  | true =>
    rw [if_pos rfl, if_pos rfl]
    have hm := h
    simp only [mayL, colL, Bool.and_eq_true, decide_eq_true_eq] at hm
    have m0 := mark_len b0 1
    have m1 := mark_len b1 2
    have m2 := mark_len b2 3
    have m3 := mark_len b3 5
    have m4 := mark_len b4 7
    have m5 := mark_len b5 8
    have m6 := mark_len b6 9
    have m7 := mark_len (u == 1) 4
    have hc : (colourL f 30).length ≤ 1 := by unfold colourL; split <;> simp
    have hj : ∀ x : List (List Int), x.length ≤ 100 → clavierref18_Params.j0 (k + 1) x b0 b1 b2 b3 b4 b5 b6 u f b = some (x ++ markL b3 5 ++ markL b4 7 ++ markL b5 8 ++ markL b6 9 ++ colourL f 30 ++ colourL b 40) := by
      intro x hx
      rw [clavierref18_Params.j0, refOne_is _ _ _ (by omega), Option.bind_some, refOne_is _ _ _ (by simp; omega), Option.bind_some, refOne_is _ _ _ (by simp; omega), Option.bind_some, refOne_is _ _ _ (by simp; omega), Option.bind_some, refTint_is _ _ _ (by omega) (by omega) (by decide) (by decide) (by simp; omega), Option.bind_some, refTint_is _ _ _ (by omega) (by omega) (by decide) (by decide) (by simp; omega)]
      rfl
    rw [refOne_is _ _ _ (by simp), Option.bind_some, refOne_is _ _ _ (by simp; omega), Option.bind_some, refOne_is _ _ _ (by simp; omega), Option.bind_some, refOne_is _ _ _ (by simp; omega), Option.bind_some]
    by_cases h1 : u = 1
    · subst h1
      have m8 := mark_len true 4
      rw [if_neg (by decide), hj _ (by simp; omega)]
      rfl
    · have e1 : (u == 1) = false := beq_eq_false_iff_ne.2 h1
      by_cases h2 : u > 1
      · rw [if_pos h2, Option.bind_some, if_pos (by simp; omega), Option.bind_some, if_pos (by simp; omega), hj _ (by simp; omega), e1]
        simp [paramsL, underL, markL, h1, show 1 < u from h2]
      · rw [if_neg h2, hj _ (by simp; omega), e1]
        simp [paramsL, underL, markL, h1, show ¬ 1 < u from h2]
theorem tint_len (n base : Int) : (tintL n base).length ≤ 6 := by
  unfold tintL
  repeat' split
  all_goals simp
theorem mem_mark {c : Bool} {n : Int} {r : List Int} (h : r ∈ markL c n) : r = [n] := by cases c <;> simp [markL] at h; exact h
theorem paramsV_rows (s : St) : ∀ r ∈ paramsV s, r.length ≤ 6 := by
  intro r hr
  unfold paramsV at hr
  split at hr
  · simp only [paramsL, List.mem_append] at hr
    rcases hr with (((((((((h | h) | h) | h) | h) | h) | h) | h) | h) | h) | h
    · simp at h; subst h; simp
    · rw [mem_mark h]; simp
    · rw [mem_mark h]; simp
    · rw [mem_mark h]; simp
    · unfold underL at h; repeat' split at h
      all_goals simp at h; try (subst h; simp)
    · rw [mem_mark h]; simp
    · rw [mem_mark h]; simp
    · rw [mem_mark h]; simp
    · rw [mem_mark h]; simp
    · unfold colourL at h; split at h <;> simp at h; subst h; exact tint_len _ _
    · unfold colourL at h; split at h <;> simp at h; subst h; exact tint_len _ _
  · cases hr
theorem paramsV_len (s : St) : (paramsV s).length ≤ 11 := by
  unfold paramsV
  split
  · have hu : (underL s.2.2.2.2.2.2.2.1).length ≤ 1 := by unfold underL; repeat' split
                                                          all_goals simp
    have hc : ∀ n b, (colourL n b).length ≤ 1 := fun n b => by unfold colourL; split <;> simp
    have h1 := hc s.2.2.2.2.2.2.2.2.1 30
    have h2 := hc s.2.2.2.2.2.2.2.2.2 40
    have m0 := mark_len s.1 1
    have m1 := mark_len s.2.1 2
    have m2 := mark_len s.2.2.1 3
    have m3 := mark_len s.2.2.2.1 5
    have m4 := mark_len s.2.2.2.2.1 7
    have m5 := mark_len s.2.2.2.2.2.1 8
    have m6 := mark_len s.2.2.2.2.2.2.1 9
    simp only [paramsL, List.length_append, List.length_singleton]
    omega
  · simp
theorem paramsV_small (s : St) : Small (paramsV s) := ⟨by have := paramsV_len s; omega, fun r hr => by have := paramsV_rows s r hr; omega⟩
theorem paramsV_in (s : St) : AllI (paramsV s) := by
  intro r hr z hz
  unfold paramsV at hr
  split at hr
  · rename_i hm
    simp only [mayL, colL, Bool.and_eq_true, decide_eq_true_eq] at hm
    have ht : ∀ n base : Int, -1 ≤ n → n < 16777472 → 0 ≤ base → base ≤ 100 → ∀ z ∈ tintL n base, -9223372036854775808 ≤ z ∧ z ≤ 9223372036854775807 := by
      intro n base h0 h1 h2 h3 z hz
      unfold tintL at hz
      repeat' split at hz
      all_goals simp at hz
      all_goals omega
    simp only [paramsL, List.mem_append] at hr
    rcases hr with (((((((((h | h) | h) | h) | h) | h) | h) | h) | h) | h) | h
    · simp at h; subst h; simp at hz; omega
    · rw [mem_mark h] at hz; simp at hz; omega
    · rw [mem_mark h] at hz; simp at hz; omega
    · rw [mem_mark h] at hz; simp at hz; omega
    · unfold underL at h
      repeat' split at h
      all_goals simp at h
      all_goals (subst h; simp at hz; omega)
    · rw [mem_mark h] at hz; simp at hz; omega
    · rw [mem_mark h] at hz; simp at hz; omega
    · rw [mem_mark h] at hz; simp at hz; omega
    · rw [mem_mark h] at hz; simp at hz; omega
    · unfold colourL at h; split at h <;> simp at h; subst h; exact ht _ _ (by omega) (by omega) (by decide) (by decide) z hz
    · unfold colourL at h; split at h <;> simp at h; subst h; exact ht _ _ (by omega) (by omega) (by decide) (by decide) z hz
  · cases hr
theorem same_is (a b : List (List Int)) (ha : Small a) (hb : b.length ≤ 1000) (k : Nat) (hk : 1000 ≤ k) : clavierlaw18_same.f k a b = some (decide (a = b)) := by
  unfold clavierlaw18_same.f
  have h100 := ha.1
  rw [Same_is 0 0 0 0 0 0 a b ⟨#[]⟩ ⟨#[]⟩ ⟨#[]⟩ ⟨#[]⟩ 100 (by decide) ha.2 (by omega) (by omega) k (by omega)]
  simp
def boldS : St := (true, false, false, false, false, false, false, 0, 1, -1)
theorem dec31 : Lib.decDigits 31 = [51, 49] := by
  rw [decDigits_big (by decide), decDigits_small (by decide)]
  rfl
theorem awake18_is (k : Nat) (hk : 13000 ≤ k) : clavierlaw18_awake.f k = some true := by
  have hp : style_Params.f true false false false false false false 0 1 (-1) = some (paramsV boldS) := Params_is _ _ _ _ _ _ _ _ _ _ (by decide) (by decide)
  have hv : paramsV boldS = [[0], [1], [31]] := by decide
  have ht : textP [[0], [1], [31]] = [48, 59, 49, 59, 51, 49] := by
    have e0 : textL 0 = [48] := by rw [textL_of (by decide)]; exact decDigits_small (by decide)
    have e1 : textL 1 = [49] := by rw [textL_of (by decide)]; exact decDigits_small (by decide)
    have e31 : textL 31 = [51, 49] := by rw [textL_of (by decide)]; exact dec31
    simp only [textP, partT, List.map_cons, List.map_nil, e0, e1, e31, Lib.join_one]
    rfl
  have hs := paramsV_small boldS
  have hi := paramsV_in boldS
  have hT := Text_is (paramsV boldS) hi hs k (by omega)
  have hA := Apply_is (false, false, false, false, false, false, true, 0, 0, 0) (paramsV boldS) hi (by have := hs.1; omega) k (by have := hs.1; omega)
  have hf : foldS (false, false, false, false, false, false, true, 0, 0, 0) (paramsV boldS) = boldS := by rw [hv]; rfl
  unfold clavierlaw18_awake.f
  rw [hp, Option.bind_some, hT, Option.bind_some, if_pos (by rw [hv, ht, Lib.toList_data]), hA, Option.bind_some, hf, if_pos (by decide), may_is, Option.bind_some, if_pos (by decide), may_is, Option.bind_some]
  decide
end Go.Proofs.YtbaigfoioiklkaaDoor.G
end
