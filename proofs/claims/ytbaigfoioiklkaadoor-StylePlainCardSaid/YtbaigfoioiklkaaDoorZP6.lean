/- P: texts run together by shake.py: PuSd PuSf PuSh Gclavierref03a1 Gclavierref03a2 Gclavierref03a3. -/
import Derived.ArgAppend
import Derived.Below
import Derived.BigQuiet
import Derived.ChangeOld
import Derived.ChangeSlices
import Derived.Deep.AppendLies
import Derived.Deep.CutBlock
import Derived.Deep.DeepCutAuto
import Derived.Deep.Draws
import Derived.Deep.LoopGhost
import Derived.Deep.Matrix
import Derived.Deep.OwnRows
import Derived.Deep.Quiet
import Derived.Deep.QuietTactic
import Derived.Deep.RegionHeld3
import Derived.KernelRfl
import Derived.Laws.AppendOwn
import Derived.Laws.AppendOwnNone
import Derived.Laws.BitsLemmas
import Derived.Laws.BytesArg
import Derived.Laws.Concat
import Derived.Laws.CopyRow
import Derived.Laws.IdiomCopy
import Derived.Laws.IdiomStrings
import Derived.Laws.MakeOwn
import Derived.Laws.OwnMore
import Derived.Laws.Rows
import Derived.Laws.Slices
import Derived.Laws.StructEq
import Derived.Lib.AppendIntMem
import Derived.Lib.AppendStr
import Derived.Lib.ConvBytes
import Derived.Lib.Hide
import Derived.Lib.ItoaLen
import Derived.Lib.ItoaNum
import Derived.Lib.Join
import Derived.Lib.LaidTab
import Derived.Lib.Strings
import Derived.MapKept
import Derived.Maps.AppendAt
import Derived.OpenShut
import Derived.Orders
import Derived.OrdersHeld
import Derived.Outline
import Derived.OwnWalk
import Derived.ProofKit
import Derived.RowKit
import Derived.RowKit3
import Derived.Shelf.LaysM
import Derived.Shelf.Strconv.Itoa0
import Derived.Shelf.Strconv.Itoa1
import Derived.Shelf.Strconv.Itoa2
import Derived.Shelf.Strconv.Itoa3
import Derived.Shelf.Strings.Builder1
import Derived.Shelf.Strings.Builder2
import Derived.Shelf.Strings.Builder2Cap
import Derived.Shelf.Strings.BuilderCap
import Derived.Shelf.Strings.BuilderF
import Derived.Shelf.Strings.BuilderK
import Derived.Shelf.Strings.OnBuilder
import Derived.ShutString
import Derived.SizedLaws
import Derived.Still
import Derived.Tactics
import Derived.Test.YtbaigfoioiklkaaDoorProg
import Derived.WalkKit
import Derived.WalkLawsBesides
import Derived.WalkSpells
import Derived.WideLaws
import Derived.Test.YtbaigfoioiklkaaDoorZP1
import Derived.Test.YtbaigfoioiklkaaDoorZP2
import Derived.Test.YtbaigfoioiklkaaDoorZP3
import Derived.Test.YtbaigfoioiklkaaDoorZP4
import Derived.Test.YtbaigfoioiklkaaDoorZP5
section
namespace Go.Proofs.YtbaigfoioiklkaaDoor.G
set_option linter.unusedVariables false
set_option linter.unusedSimpArgs false
open Go.RowKit Kit Go.Proofs.YtbaigfoioiklkaaDoorW.PrintWords
def paramsV (s : St) : List (List Int) :=
  if mayL s.2.2.2.2.2.2.2.1 s.2.2.2.2.2.2.2.2.1 s.2.2.2.2.2.2.2.2.2 then paramsL s.1 s.2.1 s.2.2.1 s.2.2.2.1 s.2.2.2.2.1 s.2.2.2.2.2.1 s.2.2.2.2.2.2.1 s.2.2.2.2.2.2.2.1 s.2.2.2.2.2.2.2.2.1 s.2.2.2.2.2.2.2.2.2 else []
theorem Params_is (b0 b1 b2 b3 b4 b5 b6 : Bool) (u f b : Int) (hf : -9223372036854775808 ≤ f) (hb : -9223372036854775808 ≤ b) : style_Params.f b0 b1 b2 b3 b4 b5 b6 u f b = some (paramsV (b0, b1, b2, b3, b4, b5, b6, u, f, b)) := by
  unfold style_Params.f paramsV
  rw [may_is]
  cases h : mayL u f b with
  | true => rw [if_pos rfl, if_pos ⟨hf, hb⟩, if_pos rfl]
  | false => rw [if_neg (by decide), if_pos rfl, if_neg (by simp [h])]
theorem mark_len (c : Bool) (n : Int) : (markL c n).length ≤ 1 := by cases c <;> simp [markL]
theorem tint_len (n base : Int) : (tintL n base).length ≤ 6 := by
  unfold tintL
  repeat' split
  all_goals simp
theorem mem_mark {c : Bool} {n : Int} {r : List Int} (h : r ∈ markL c n) : r = [n] := by cases c <;> simp [markL] at h; exact h
theorem paramsV_rows (s : St) : ∀ r ∈ paramsV s, r.length ≤ 6 := by
  intro r hr
  unfold paramsV at hr
  split at hr
  · simp only [paramsL, List.mem_append] at hr
    rcases hr with (((((((((h | h) | h) | h) | h) | h) | h) | h) | h) | h) | h
    · simp at h; subst h; simp
    · rw [mem_mark h]; simp
    · rw [mem_mark h]; simp
    · rw [mem_mark h]; simp
    · unfold underL at h; repeat' split at h
      all_goals simp at h; try (subst h; simp)
    · rw [mem_mark h]; simp
    · rw [mem_mark h]; simp
    · rw [mem_mark h]; simp
    · rw [mem_mark h]; simp
    · unfold colourL at h; split at h <;> simp at h; subst h; exact tint_len _ _
    · unfold colourL at h; split at h <;> simp at h; subst h; exact tint_len _ _
  · cases hr
theorem paramsV_len (s : St) : (paramsV s).length ≤ 11 := by
  unfold paramsV
  split
  · have hu : (underL s.2.2.2.2.2.2.2.1).length ≤ 1 := by unfold underL; repeat' split
                                                          all_goals simp
    have hc : ∀ n b, (colourL n b).length ≤ 1 := fun n b => by unfold colourL; split <;> simp
    have h1 := hc s.2.2.2.2.2.2.2.2.1 30
    have h2 := hc s.2.2.2.2.2.2.2.2.2 40
    have m0 := mark_len s.1 1
    have m1 := mark_len s.2.1 2
    have m2 := mark_len s.2.2.1 3
    have m3 := mark_len s.2.2.2.1 5
    have m4 := mark_len s.2.2.2.2.1 7
    have m5 := mark_len s.2.2.2.2.2.1 8
    have m6 := mark_len s.2.2.2.2.2.2.1 9
    simp only [paramsL, List.length_append, List.length_singleton]
    omega
  · simp
theorem paramsV_small (s : St) : Small (paramsV s) := ⟨by have := paramsV_len s; omega, fun r hr => by have := paramsV_rows s r hr; omega⟩
theorem paramsV_in (s : St) : AllI (paramsV s) := by
  intro r hr z hz
  unfold paramsV at hr
  split at hr
  · rename_i hm
    simp only [mayL, colL, Bool.and_eq_true, decide_eq_true_eq] at hm
    have ht : ∀ n base : Int, -1 ≤ n → n < 16777472 → 0 ≤ base → base ≤ 100 → ∀ z ∈ tintL n base, -9223372036854775808 ≤ z ∧ z ≤ 9223372036854775807 := by
      intro n base h0 h1 h2 h3 z hz
      unfold tintL at hz
      repeat' split at hz
      all_goals simp at hz
      all_goals omega
    simp only [paramsL, List.mem_append] at hr
    rcases hr with (((((((((h | h) | h) | h) | h) | h) | h) | h) | h) | h) | h
    · simp at h; subst h; simp at hz; omega
    · rw [mem_mark h] at hz; simp at hz; omega
    · rw [mem_mark h] at hz; simp at hz; omega
    · rw [mem_mark h] at hz; simp at hz; omega
    · unfold underL at h
      repeat' split at h
      all_goals simp at h
      all_goals (subst h; simp at hz; omega)
    · rw [mem_mark h] at hz; simp at hz; omega
    · rw [mem_mark h] at hz; simp at hz; omega
    · rw [mem_mark h] at hz; simp at hz; omega
    · rw [mem_mark h] at hz; simp at hz; omega
    · unfold colourL at h; split at h <;> simp at h; subst h; exact ht _ _ (by omega) (by omega) (by decide) (by decide) z hz
    · unfold colourL at h; split at h <;> simp at h; subst h; exact ht _ _ (by omega) (by omega) (by decide) (by decide) z hz
  · cases hr
theorem few_loop (l : List (List Int)) : ∀ d i k : Nat, i + d = 41 → 2 * d + 5 ≤ k → ∃ b, clavierlaw18_few.l0 k l (i : Int) = some b ∧ (b = true → l.length ≤ 40 ∧ ∀ j, i ≤ j → (h : j < l.length) → l[j].length ≤ 20) := by
  intro d
  induction d with
  | zero =>
    intro i k hi hk
    obtain ⟨k, rfl⟩ : ∃ m, k = m + 2 := ⟨k - 2, by omega⟩
    refine ⟨decide ((l.length : Int) ≤ 40), ?_, fun h => ?_⟩
    · rw [clavierlaw18_few.l0]
      by_cases hil : (i : Int) < (l.length : Int)
      · rw [if_pos hil, clavierlaw18_few.j1, if_neg (by simp; omega)]
      · rw [if_neg hil, clavierlaw18_few.j1, if_neg (by decide)]
    · have : l.length ≤ 40 := by have := of_decide_eq_true h; omega
      exact ⟨this, fun j hj hjl => by omega⟩
  | succ d ih =>
    intro i k hi hk
    obtain ⟨k, rfl⟩ : ∃ m, k = m + 2 := ⟨k - 2, by omega⟩
    by_cases hil : i < l.length
    · have hw : wrap64 ((i : Int) + 1) = ((i + 1 : Nat) : Int) := by unfold wrap64; omega
      rw [clavierlaw18_few.l0, if_pos (by omega), clavierlaw18_few.j1, if_pos (by simp; omega), if_pos (by omega), if_pos (by omega), rd_rowQ l i hil, hw]
      by_cases h20 : (l[i].length : Int) > 20
      · rw [if_pos h20]
        exact ⟨false, rfl, fun h => by cases h⟩
      · rw [if_neg h20]
        obtain ⟨b, h1, h2⟩ := ih (i + 1) k (by omega) (by omega)
        refine ⟨b, h1, fun hb => ⟨(h2 hb).1, fun j hj hjl => ?_⟩⟩
        by_cases hji : j = i
        · subst hji; omega
        · exact (h2 hb).2 j (by omega) hjl
    · refine ⟨decide ((l.length : Int) ≤ 40), ?_, fun h => ?_⟩
      · rw [clavierlaw18_few.l0, if_neg (by omega), clavierlaw18_few.j1, if_neg (by decide)]
      · have : l.length ≤ 40 := by have := of_decide_eq_true h; omega
        exact ⟨this, fun j hj hjl => by omega⟩
theorem few_is (l : List (List Int)) (k : Nat) (hk : 100 ≤ k) : ∃ b, clavierlaw18_few.f k l = some b ∧ (b = true → l.length ≤ 40 ∧ ∀ r ∈ l, r.length ≤ 20) := by
  obtain ⟨b, h1, h2⟩ := few_loop l 41 0 k (by omega) (by omega)
  refine ⟨b, by simpa [clavierlaw18_few.f] using h1, fun hb => ⟨(h2 hb).1, fun r hr => ?_⟩⟩
  obtain ⟨j, hj, rfl⟩ := List.mem_iff_getElem.1 hr
  exact (h2 hb).2 j (by omega) hj
def boldS : St := (true, false, false, false, false, false, false, 0, 1, -1)
theorem dec31 : Lib.decDigits 31 = [51, 49] := by
  rw [decDigits_big (by decide), decDigits_small (by decide)]
  rfl
theorem awake18_is (k : Nat) (hk : 13000 ≤ k) : clavierlaw18_awake.f k = some true := by
  have hp : style_Params.f true false false false false false false 0 1 (-1) = some (paramsV boldS) := Params_is _ _ _ _ _ _ _ _ _ _ (by decide) (by decide)
  have hv : paramsV boldS = [[0], [1], [31]] := by decide
  have ht : textP [[0], [1], [31]] = [48, 59, 49, 59, 51, 49] := by
    have e0 : textL 0 = [48] := by rw [textL_of (by decide)]; exact decDigits_small (by decide)
    have e1 : textL 1 = [49] := by rw [textL_of (by decide)]; exact decDigits_small (by decide)
    have e31 : textL 31 = [51, 49] := by rw [textL_of (by decide)]; exact dec31
    simp only [textP, partT, List.map_cons, List.map_nil, e0, e1, e31, Lib.join_one]
    rfl
  have hs := paramsV_small boldS
  have hi := paramsV_in boldS
  have hT := Text_is (paramsV boldS) hi hs k (by omega)
  have hA := Apply_is (false, false, false, false, false, false, true, 0, 0, 0) (paramsV boldS) hi (by have := hs.1; omega) k (by have := hs.1; omega)
  have hf : foldS (false, false, false, false, false, false, true, 0, 0, 0) (paramsV boldS) = boldS := by rw [hv]; rfl
  unfold clavierlaw18_awake.f
  rw [hp, Option.bind_some, hT, Option.bind_some, if_pos (by rw [hv, ht, Lib.toList_data]), hA, Option.bind_some, hf, if_pos (by decide), may_is, Option.bind_some, if_pos (by decide), may_is, Option.bind_some]
  decide
end Go.Proofs.YtbaigfoioiklkaaDoor.G
end
section
namespace Go.Proofs.YtbaigfoioiklkaaDoor.G
set_option linter.unusedVariables false
set_option linter.unusedSimpArgs false
open Go.RowKit Kit Go.Proofs.YtbaigfoioiklkaaDoorW.PrintWords
theorem one_nought (s : St) : oneS s [0] = (false, false, false, false, false, false, false, 0, -1, -1) := by unfold oneS oneL; rw [if_pos (Or.inr (by simp [at_]))]
theorem fold_mark {s : St} {b : Bool} {n : Int} : foldS s (markL b n) = if b then oneS s [n] else s := by cases b <;> rfl
theorem m1 (b0 b1 b2 b3 b4 b5 b6 : Bool) (u f b : Int) : foldS (false, b1, b2, b3, b4, b5, b6, u, f, b) (markL b0 1) = (b0, b1, b2, b3, b4, b5, b6, u, f, b) := by
  rw [fold_mark]; cases b0 <;> simp [oneS, oneL, at_, saidI]
theorem m2 (b0 b1 b2 b3 b4 b5 b6 : Bool) (u f b : Int) : foldS (b0, false, b2, b3, b4, b5, b6, u, f, b) (markL b1 2) = (b0, b1, b2, b3, b4, b5, b6, u, f, b) := by
  rw [fold_mark]; cases b1 <;> simp [oneS, oneL, at_, saidI]
theorem m3 (b0 b1 b2 b3 b4 b5 b6 : Bool) (u f b : Int) : foldS (b0, b1, false, b3, b4, b5, b6, u, f, b) (markL b2 3) = (b0, b1, b2, b3, b4, b5, b6, u, f, b) := by
  rw [fold_mark]; cases b2 <;> simp [oneS, oneL, at_, saidI]
theorem m5 (b0 b1 b2 b3 b4 b5 b6 : Bool) (u f b : Int) : foldS (b0, b1, b2, false, b4, b5, b6, u, f, b) (markL b3 5) = (b0, b1, b2, b3, b4, b5, b6, u, f, b) := by
  rw [fold_mark]; cases b3 <;> simp [oneS, oneL, at_, saidI]
def Fair (r : List Int) : Prop := r ≠ [] ∧ ∀ z ∈ r, -1 ≤ z ∧ z ≤ 1114111
theorem fair_one {n : Int} (h0 : -1 ≤ n) (h1 : n ≤ 1114111) : Fair [n] := ⟨by simp, fun z hz => by simp at hz; subst hz; exact ⟨h0, h1⟩⟩
theorem fair_tint (n base : Int) (h0 : 0 ≤ n) (h1 : n < 16777472) (hb : base = 30 ∨ base = 40) : Fair (tintL n base) := by
  unfold tintL
  repeat' split
  · exact fair_one (by omega) (by omega)
  · exact fair_one (by omega) (by omega)
  · refine ⟨by simp, fun z hz => ?_⟩
    simp at hz
    omega
  · refine ⟨by simp, fun z hz => ?_⟩
    simp at hz
    omega
theorem paramsV_fair (b0 b1 b2 b3 b4 b5 b6 : Bool) (u f b : Int) (h : mayL u f b = true) : paramsV (b0, b1, b2, b3, b4, b5, b6, u, f, b) ≠ [] ∧ ∀ r ∈ paramsV (b0, b1, b2, b3, b4, b5, b6, u, f, b), Fair r := by
  have hm := h
  simp only [mayL, colL, Bool.and_eq_true, decide_eq_true_eq] at hm
  obtain ⟨h0, h1, ⟨h2, h3⟩, h4, h5⟩ := hm
  have hc : ∀ n base r, r ∈ colourL n base → -1 ≤ n → n < 16777472 → base = 30 ∨ base = 40 → Fair r := by
    intro n base r hr k0 k1 hb
    unfold colourL at hr
    split at hr
    · cases hr
    · rename_i hne
      rw [List.mem_singleton.1 hr]
      exact fair_tint n base (by omega) k1 hb
  have e : paramsV (b0, b1, b2, b3, b4, b5, b6, u, f, b) = paramsL b0 b1 b2 b3 b4 b5 b6 u f b := by unfold paramsV; rw [if_pos h]
  rw [e]
  refine ⟨by simp [paramsL], fun r hr => ?_⟩
  simp only [paramsL, List.mem_append] at hr
  rcases hr with (((((((((h | h) | h) | h) | h) | h) | h) | h) | h) | h) | h
  · rw [List.mem_singleton.1 h]; exact fair_one (by decide) (by decide)
  · rw [mem_mark h]; exact fair_one (by decide) (by decide)
  · rw [mem_mark h]; exact fair_one (by decide) (by decide)
  · rw [mem_mark h]; exact fair_one (by decide) (by decide)
  · unfold underL at h
    repeat' split at h
    · rw [List.mem_singleton.1 h]; exact fair_one (by decide) (by decide)
    · rw [List.mem_singleton.1 h]
      refine ⟨by simp, fun z hz => ?_⟩
      simp at hz
      omega
    · cases h
  · rw [mem_mark h]; exact fair_one (by decide) (by decide)
  · rw [mem_mark h]; exact fair_one (by decide) (by decide)
  · rw [mem_mark h]; exact fair_one (by decide) (by decide)
  · rw [mem_mark h]; exact fair_one (by decide) (by decide)
  · exact hc f 30 r h h2 h3 (.inl rfl)
  · exact hc b 40 r h h4 h5 (.inr rfl)
end Go.Proofs.YtbaigfoioiklkaaDoor.G
end
section
namespace Go.Proofs.YtbaigfoioiklkaaDoor.G
set_option linter.unusedVariables false
set_option linter.unusedSimpArgs false
open Go.RowKit Kit Go.Proofs.YtbaigfoioiklkaaDoorW.PrintWords
theorem few_small {l : List (List Int)} (h : l.length ≤ 40 ∧ ∀ r ∈ l, r.length ≤ 20) : Small l := ⟨by omega, fun r hr => by have := h.2 r hr; omega⟩
end Go.Proofs.YtbaigfoioiklkaaDoor.G
end
section
namespace Go.Proofs.YtbaigfoioiklkaaDoor.G
open Go.RowKit Go.Proofs.YtbaigfoioiklkaaDoorW.PrintWords Go.Proofs.YtbaigfoioiklkaaDoorW.PrintLast Go.Proofs.YtbaigfoioiklkaaDoorW.PrintMore
attribute [local go_sem] max2_int min2_int max_two min_two max_three min_three max_four min_four
set_option linter.unusedVariables false
set_option linter.unusedSimpArgs false
mutual
def clavierref03_params.j0 : Nat → List (List Int) → Bool → Option (Bool)
  | 0, _, _ => none
  | k + 1, x0, x27 => if x27 = true then (some false) else (clavierref03_params.l0 k x0 0)
def clavierref03_params.l0 : Nat → List (List Int) → Int → Option (Bool)
  | 0, _, _ => none
  | k + 1, x0, x3 => if x3 < (x0.length : Int) then (if 0 ≤ x3 then (if ((rd_L1 x0 x3).length : Int) < 1 then (clavierref03_params.j2 k x0 x3 true) else (clavierref03_params.j2 k x0 x3 (decide (((rd_L1 x0 x3).length : Int) > 8)))) else (none)) else (some true)
def clavierref03_params.j2 : Nat → List (List Int) → Int → Bool → Option (Bool)
  | 0, _, _, _ => none
  | k + 1, x0, x3, x47 => if x47 = true then (some false) else (clavierref03_params.l1 k x0 x3 0)
def clavierref03_params.l1 : Nat → List (List Int) → Int → Int → Option (Bool)
  | 0, _, _, _ => none
  | k + 1, x0, x3, x4 => if 0 ≤ x3 then (if x3 < (x0.length : Int) then (if x4 < ((rd_L1 x0 x3).length : Int) then (if 0 ≤ x4 then (if (rd (rd_L1 x0 x3) x4) < (-1) then (some false) else (if (rd (rd_L1 x0 x3) x4) > 1114111 then (some false) else (clavierref03_params.l1 k x0 x3 (wrap64 (x4 + 1))))) else (none)) else (clavierref03_params.l0 k x0 (wrap64 (x3 + 1)))) else (none)) else (none)
end
def clavierref03_params.f (k : Nat) (l0 : List (List Int)) : Option (Bool) := if (l0.length : Int) > 16 then (clavierref03_params.j0 k l0 true) else (if (l0.length : Int) = 1 then (if 0 < (l0.length : Int) then (if ((rd_L1 l0 0).length : Int) = 1 then (if 0 < ((rd_L1 l0 0).length : Int) then (clavierref03_params.j0 k l0 ((rd (rd_L1 l0 0) 0) == (-1))) else (none)) else (clavierref03_params.j0 k l0 false)) else (none)) else (clavierref03_params.j0 k l0 false))
theorem clavierref03_params.mono_l : ∀ k, (∀ y0 y1, LeO (clavierref03_params.j0 k y0 y1) (clavierref03_params.j0 (k + 1) y0 y1)) ∧ (∀ y0 y1, LeO (clavierref03_params.l0 k y0 y1) (clavierref03_params.l0 (k + 1) y0 y1)) ∧ (∀ y0 y1 y2, LeO (clavierref03_params.j2 k y0 y1 y2) (clavierref03_params.j2 (k + 1) y0 y1 y2)) ∧ (∀ y0 y1 y2, LeO (clavierref03_params.l1 k y0 y1 y2) (clavierref03_params.l1 (k + 1) y0 y1 y2))
  | 0 => ⟨fun _ _ r h => by simp [clavierref03_params.j0] at h, fun _ _ r h => by simp [clavierref03_params.l0] at h, fun _ _ _ r h => by simp [clavierref03_params.j2] at h, fun _ _ _ r h => by simp [clavierref03_params.l1] at h⟩
  | k + 1 => by
    obtain ⟨ih0, ih1, ih2, ih3⟩ := clavierref03_params.mono_l k
    refine ⟨?_, ?_, ?_, ?_⟩
    · intro y0 y1
      unfold clavierref03_params.j0
      repeat' first
      | (with_reducible exact ih0 _ _)
      | (with_reducible exact ih1 _ _)
      | (with_reducible exact ih2 _ _ _)
      | (with_reducible exact ih3 _ _ _)
      | (with_reducible exact LeO.refl _)
      | (with_reducible exact LeO.none _)
      | (with_reducible refine LeO.ite ?_ ?_)
      | (with_reducible refine LeO.bind ?_ (fun _ => ?_))
      | exact ih0 _ _
      | exact ih1 _ _
      | exact ih2 _ _ _
      | exact ih3 _ _ _
      | exact LeO.none _
      | refine LeO.ite ?_ ?_
      | refine LeO.bind ?_ (fun _ => ?_)
    · intro y0 y1
      unfold clavierref03_params.l0
      repeat' first
      | (with_reducible exact ih0 _ _)
      | (with_reducible exact ih1 _ _)
      | (with_reducible exact ih2 _ _ _)
      | (with_reducible exact ih3 _ _ _)
      | (with_reducible exact LeO.refl _)
      | (with_reducible exact LeO.none _)
      | (with_reducible refine LeO.ite ?_ ?_)
      | (with_reducible refine LeO.bind ?_ (fun _ => ?_))
      | exact ih0 _ _
      | exact ih1 _ _
      | exact ih2 _ _ _
      | exact ih3 _ _ _
      | exact LeO.none _
      | refine LeO.ite ?_ ?_
      | refine LeO.bind ?_ (fun _ => ?_)
    · intro y0 y1 y2
      unfold clavierref03_params.j2
      repeat' first
      | (with_reducible exact ih0 _ _)
      | (with_reducible exact ih1 _ _)
      | (with_reducible exact ih2 _ _ _)
      | (with_reducible exact ih3 _ _ _)
      | (with_reducible exact LeO.refl _)
      | (with_reducible exact LeO.none _)
      | (with_reducible refine LeO.ite ?_ ?_)
      | (with_reducible refine LeO.bind ?_ (fun _ => ?_))
      | exact ih0 _ _
      | exact ih1 _ _
      | exact ih2 _ _ _
      | exact ih3 _ _ _
      | exact LeO.none _
      | refine LeO.ite ?_ ?_
      | refine LeO.bind ?_ (fun _ => ?_)
    · intro y0 y1 y2
      unfold clavierref03_params.l1
      repeat' first
      | (with_reducible exact ih0 _ _)
      | (with_reducible exact ih1 _ _)
      | (with_reducible exact ih2 _ _ _)
      | (with_reducible exact ih3 _ _ _)
      | (with_reducible exact LeO.refl _)
      | (with_reducible exact LeO.none _)
      | (with_reducible refine LeO.ite ?_ ?_)
      | (with_reducible refine LeO.bind ?_ (fun _ => ?_))
      | exact ih0 _ _
      | exact ih1 _ _
      | exact ih2 _ _ _
      | exact ih3 _ _ _
      | exact LeO.none _
      | refine LeO.ite ?_ ?_
      | refine LeO.bind ?_ (fun _ => ?_)
theorem clavierref03_params.mono : ∀ a0 k, LeO (clavierref03_params.f k a0) (clavierref03_params.f (k + 1) a0) := by
  intro a0 k
  obtain ⟨ih0, ih1, ih2, ih3⟩ := clavierref03_params.mono_l k
  unfold clavierref03_params.f
  repeat' first
      | (with_reducible exact ih0 _ _)
      | (with_reducible exact ih1 _ _)
      | (with_reducible exact ih2 _ _ _)
      | (with_reducible exact ih3 _ _ _)
      | (with_reducible exact LeO.refl _)
      | (with_reducible exact LeO.none _)
      | (with_reducible refine LeO.ite ?_ ?_)
      | (with_reducible refine LeO.bind ?_ (fun _ => ?_))
      | exact ih0 _ _
      | exact ih1 _ _
      | exact ih2 _ _ _
      | exact ih3 _ _ _
      | exact LeO.none _
      | refine LeO.ite ?_ ?_
      | refine LeO.bind ?_ (fun _ => ?_)
set_option maxHeartbeats 8000000 in
set_option maxRecDepth 100000 in
theorem clavierref03_params.calls (k : Nat) (A0 : Option Addr) (c0 : Nat) (l0 : List (List Int)) (r : Bool) (w : World) (hr0 : Kd.C (Kd.slice 3 (Kd.int .i64)) w A0 l0.length l0) (hc0 : l0.length ≤ c0) (h : clavierref03_params.f k l0 = some r) :
    Calls Tryd.prog 34 #[.slice A0 l0.length c0] w fun e w' => e = .returned (.bool r) ∧ Drawn0 w w' := by
  have HR0 := Aside0.mk hr0
  have HC0 := Aside0.mk hc0
  clear hr0 hc0
  have H : (if (l0.length : Int) > 16 then (clavierref03_params.j0 k l0 true) else (if (l0.length : Int) = 1 then (if 0 < (l0.length : Int) then (if ((rd_L1 l0 0).length : Int) = 1 then (if 0 < ((rd_L1 l0 0).length : Int) then (clavierref03_params.j0 k l0 ((rd (rd_L1 l0 0) 0) == (-1))) else (none)) else (clavierref03_params.j0 k l0 false)) else (none)) else (clavierref03_params.j0 k l0 false))) = some r := h
  clear h
  have HC2 := Aside0.mk H
  clear H
  go_enter Tryd.func34, Tryd.ntmps34
  go_upto_region 1 with (fail)
  go_cut [27] (fun v27 wc => ∃ (kq : Nat) (x27_1 : Bool), v27 = .bool x27_1 ∧ Aside0 (clavierref03_params.j0 kq l0 x27_1 = some r) ∧ Aside0 (kq ≤ k) ∧ Drawn0 w wc)
  case first =>
    have H := HC2.out
    clear HC2
    by_cases c3 : (l0.length : Int) > 16
    · rw [if_pos c3] at H
      have c3b0 : decide (16 < (l0.length : Int)) = true := decide_eq_true c3
      have c3b1 : decide (16 < l0.length) = true := decide_eq_true (by omega)
      clear c3
      (first | rw [c3b0] | (simp only [i64_w, i32_w]; rw [c3b0]) | skip)
      have H' := Aside0.mk H
      clear H
      go_wp2
      go_meet
      case rel => exact ⟨_, (true), (by first | rfl | (simp; done) | (simp [*]; done)), H', ⟨by first | omega | exact Nat.le_refl _⟩, by repeat (first | exact Drawn0.refl _ | apply Drawn0.step)⟩
    · rw [if_neg c3] at H
      have c3b0 : decide (16 < (l0.length : Int)) = false := decide_eq_false c3
      have c3b1 : decide (16 < l0.length) = false := decide_eq_false (by omega)
      clear c3
      (first | rw [c3b0] | (simp only [i64_w, i32_w]; rw [c3b0]) | skip)
      by_cases c4 : (l0.length : Int) = 1
      · rw [if_pos c4] at H
        have c4b0 : ((l0.length : Int) == 1) = true := beq_iff_eq.mpr c4
        have c4b1 : ((l0.length : Int) != 1) = false := bne_eq_false_iff_eq.mpr c4
        clear c4
        by_cases c5 : 0 < (l0.length : Int)
        · rw [if_pos c5] at H
          have c5b0 : decide (0 < (l0.length : Int)) = true := decide_eq_true c5
          have c5b1 : decide (0 < l0.length) = true := decide_eq_true (by omega)
          clear c5
          by_cases c6 : ((rd_L1 l0 0).length : Int) = 1
          · rw [if_pos c6] at H
            have c6b0 : (((rd_L1 l0 0).length : Int) == 1) = true := beq_iff_eq.mpr c6
            have c6b1 : (((rd_L1 l0 0).length : Int) != 1) = false := bne_eq_false_iff_eq.mpr c6
            clear c6
            by_cases c7 : 0 < ((rd_L1 l0 0).length : Int)
            · rw [if_pos c7] at H
              have c7b0 : decide (0 < ((rd_L1 l0 0).length : Int)) = true := decide_eq_true c7
              have c7b1 : decide (0 < (rd_L1 l0 0).length) = true := decide_eq_true (by omega)
              clear c7
              have H' := Aside0.mk H
              clear H
              have p496 : 0 ≤ (0 : Int) := (by omega)
              have q496 : 0 < (l0.length : Int) := of_decide_eq_true (by first | (with_reducible assumption) | assumption)
              obtain ⟨ad496, A496_0, c496_0, e496, hx496_0, hl496_0, hi496_0⟩ := at_L1 HR0.out 0 p496 q496
              cases e496
              have qi496 : (0 < l0.length) = True := eq_true (by omega)
              (try rw [show ((0 : Int)).toNat = 0 from rfl] at hx496_0)
              (try rw [Addr.add_zero'] at hx496_0)
              have HR496_0 := Aside0.mk hi496_0
              have HC496_0 := Aside0.mk hl496_0
              clear hi496_0 hl496_0
              replace p496 := eq_true p496
              replace q496 := eq_true q496
              have p497 : 0 ≤ (0 : Int) := (by omega)
              have q497 : 0 < (l0.length : Int) := of_decide_eq_true (by first | (with_reducible assumption) | assumption)
              obtain ⟨ad497, A497_0, c497_0, e497, hx497_0, hl497_0, hi497_0⟩ := at_L1 HR0.out 0 p497 q497
              obtain rfl : ad496 = ad497 := (by injection e497)
              have qi497 : (0 < l0.length) = True := eq_true (by omega)
              (try rw [show ((0 : Int)).toNat = 0 from rfl] at hx497_0)
              (try rw [Addr.add_zero'] at hx497_0)
              have HR497_0 := Aside0.mk hi497_0
              have HC497_0 := Aside0.mk hl497_0
              clear hi497_0 hl497_0
              replace p497 := eq_true p497
              replace q497 := eq_true q497
              have ea_ := Option.some.inj (hx496_0.symm.trans hx497_0)
              injection ea_ with ea_ en_ ec_
              subst ea_
              subst ec_
              clear en_
              have p498 : 0 ≤ (0 : Int) := (by omega)
              have q498 : 0 < ((rd_L1 l0 0).length : Int) := of_decide_eq_true (by first | (with_reducible assumption) | assumption)
              obtain ⟨ad498, e498, hx498_0⟩ := Kd.at_int HR497_0.out 0 p498 q498
              cases e498
              have qi498 : (0 < (rd_L1 l0 0).length) = True := eq_true (by omega)
              (try rw [show ((0 : Int)).toNat = 0 from rfl] at hx498_0)
              (try rw [Addr.add_zero'] at hx498_0)
              replace p498 := eq_true p498
              replace q498 := eq_true q498
              go_wp2
              go_meet
              case rel => exact ⟨_, (((rd (rd_L1 l0 0) 0) == (-1))), (by first | rfl | (simp; done) | (simp [*]; done)), H', ⟨by first | omega | exact Nat.le_refl _⟩, by repeat (first | exact Drawn0.refl _ | apply Drawn0.step)⟩
            · rw [if_neg c7] at H
              exact absurd H (by simp)
          · rw [if_neg c6] at H
            have c6b0 : (((rd_L1 l0 0).length : Int) == 1) = false := beq_eq_false_iff_ne.mpr c6
            have c6b1 : (((rd_L1 l0 0).length : Int) != 1) = true := bne_iff_ne.mpr c6
            have H' := Aside0.mk H
            clear H
            have p496 : 0 ≤ (0 : Int) := (by omega)
            have q496 : 0 < (l0.length : Int) := of_decide_eq_true (by first | (with_reducible assumption) | assumption)
            obtain ⟨ad496, A496_0, c496_0, e496, hx496_0, hl496_0, hi496_0⟩ := at_L1 HR0.out 0 p496 q496
            cases e496
            have qi496 : (0 < l0.length) = True := eq_true (by omega)
            (try rw [show ((0 : Int)).toNat = 0 from rfl] at hx496_0)
            (try rw [Addr.add_zero'] at hx496_0)
            have HR496_0 := Aside0.mk hi496_0
            have HC496_0 := Aside0.mk hl496_0
            clear hi496_0 hl496_0
            replace p496 := eq_true p496
            replace q496 := eq_true q496
            go_wp2
            go_meet
            case rel => exact ⟨_, (false), (by first | rfl | (simp; done) | (simp [*]; done)), H', ⟨by first | omega | exact Nat.le_refl _⟩, by repeat (first | exact Drawn0.refl _ | apply Drawn0.step)⟩
        · rw [if_neg c5] at H
          exact absurd H (by simp)
      · rw [if_neg c4] at H
        have c4b0 : ((l0.length : Int) == 1) = false := beq_eq_false_iff_ne.mpr c4
        have c4b1 : ((l0.length : Int) != 1) = true := bne_iff_ne.mpr c4
        have H' := Aside0.mk H
        clear H
        go_wp2
        go_meet
        case rel => exact ⟨_, (false), (by first | rfl | (simp; done) | (simp [*]; done)), H', ⟨by first | omega | exact Nat.le_refl _⟩, by repeat (first | exact Drawn0.refl _ | apply Drawn0.step)⟩
  case rest =>
    clear HC2
    try clear p2
    try clear c3
    try clear c3b0
    try clear c3b1
    try clear c4
    try clear c4b0
    try clear c4b1
    try clear p4
    try clear q4
    try clear hx4
    try clear qi4
    try clear c5
    try clear c5b0
    try clear c5b1
    try clear c6
    try clear c6b0
    try clear c6b1
    try clear c7
    try clear c7b0
    try clear c7b1
    try clear hx496_0
    try clear hx497_0
    try clear hx498_0
    try clear p496
    try clear p497
    try clear p498
    try clear q496
    try clear q497
    try clear q498
    obtain ⟨kq, x27_1, rfl, HA, HJ1, ⟨mc1, rfl⟩⟩ := hcut
    cases kq with
    | zero => exact absurd HA.out (by simp [clavierref03_params.j0])
    | succ kj1 =>
      have H := HA.out
      clear HA
      simp only [clavierref03_params.j0] at H
      by_cases c8 : x27_1 = true
      · subst c8
        have H1 : (some false) = some r := by rw [if_pos rfl] at H; exact H
        clear H
        have H := H1
        clear H1
        obtain rfl := Option.some.inj H
        go_wp2
        go_ret
        exact ⟨by first | rfl | (simp; done) | (simp [*]; done), by repeat (first | exact Drawn0.refl _ | apply Drawn0.step)⟩
      · replace c8 := Bool.eq_false_iff.mpr c8
        subst c8
        have H1 : (clavierref03_params.l0 kj1 l0 0) = some r := by rw [if_neg (show ¬ (false = true) by decide)] at H; exact H
        clear H
        have H := H1
        clear H1
        have H' := Aside0.mk H
        clear H
        go_wp2
        go_loopg [3] kj1 (fun kq v3 w' => ∃ (x3_2 : Int), v3 = .int .i64 x3_2 ∧ Aside0 (clavierref03_params.l0 kq l0 x3_2 = some r) ∧ Aside0 (kq ≤ kj1) ∧ Drawn0 w w')
        case atStart => exact ⟨(0), (by first | rfl | (simp; done) | (simp [*]; done)), H', ⟨Nat.le_refl _⟩, by repeat (first | exact Drawn0.refl _ | apply Drawn0.step)⟩
        case round =>
          clear H'
          try clear c1
          try clear p2
          try clear c3
          try clear c3b0
          try clear c3b1
          try clear c4
          try clear c4b0
          try clear c4b1
          try clear p4
          try clear q4
          try clear hx4
          try clear qi4
          try clear c5
          try clear c5b0
          try clear c5b1
          try clear c6
          try clear c6b0
          try clear c6b1
          try clear c7
          try clear c7b0
          try clear c7b1
          try clear c8
          try clear hx496_0
          try clear hx497_0
          try clear hx498_0
          try clear p2
          try clear p4
          try clear p496
          try clear p497
          try clear p498
          try clear q4
          try clear q496
          try clear q497
          try clear q498
          obtain ⟨x3_2, rfl, HA, HK2, ⟨m2, rfl⟩⟩ := hrel
          cases gk with
          | zero => exact absurd HA.out (by simp [clavierref03_params.l0])
          | succ k2 =>
            have H := HA.out
            clear HA
            simp only [clavierref03_params.l0] at H
            by_cases c9 : x3_2 < (l0.length : Int)
            · rw [if_pos c9] at H
              have c9b0 : decide (x3_2 < (l0.length : Int)) = true := decide_eq_true c9
              clear c9
              have HC10 := Aside0.mk H
              clear H
              go_upto_region 6 with (fail)
              go_cut [47] (fun v47 wc => ∃ (kq : Nat) (x47_9 : Bool), v47 = .bool x47_9 ∧ Aside0 (clavierref03_params.j2 kq l0 x3_2 x47_9 = some r) ∧ Aside0 (kq ≤ k2) ∧ Drawn0 w wc)
              case first =>
                have H := HC10.out
                clear HC10
                by_cases c11 : 0 ≤ x3_2
                · rw [if_pos c11] at H
                  have c11b0 : decide (0 ≤ x3_2) = true := decide_eq_true c11
                  clear c11
                  (first | rw [c11b0] | (simp only [i64_w, i32_w]; rw [c11b0]) | skip)
                  by_cases c12 : ((rd_L1 l0 x3_2).length : Int) < 1
                  · rw [if_pos c12] at H
                    have c12b0 : decide (((rd_L1 l0 x3_2).length : Int) < 1) = true := decide_eq_true c12
                    have c12b1 : decide ((rd_L1 l0 x3_2).length < 1) = true := decide_eq_true (by omega)
                    clear c12
                    have H' := Aside0.mk H
                    clear H
                    have p499 : 0 ≤ (x3_2 : Int) := of_decide_eq_true (by first | (with_reducible assumption) | assumption)
                    have q499 : x3_2 < (l0.length : Int) := of_decide_eq_true (by first | (with_reducible assumption) | assumption)
                    obtain ⟨ad499, A499_0, c499_0, e499, hx499_0, hl499_0, hi499_0⟩ := at_L1 HR0.out x3_2 p499 q499
                    cases e499
                    have HR499_0 := Aside0.mk hi499_0
                    have HC499_0 := Aside0.mk hl499_0
                    clear hi499_0 hl499_0
                    replace p499 := eq_true p499
                    replace q499 := eq_true q499
                    go_wp2
                    go_meet
                    case rel => exact ⟨_, (true), (by first | rfl | (simp; done) | (simp [*]; done)), H', ⟨by have := HJ1.out; have := HK2.out; first | omega | exact Nat.le_refl _⟩, by repeat (first | exact Drawn0.refl _ | apply Drawn0.step)⟩
                  · rw [if_neg c12] at H
                    have c12b0 : decide (((rd_L1 l0 x3_2).length : Int) < 1) = false := decide_eq_false c12
                    have c12b1 : decide ((rd_L1 l0 x3_2).length < 1) = false := decide_eq_false (by omega)
                    clear c12
                    have H' := Aside0.mk H
                    clear H
                    have p499 : 0 ≤ (x3_2 : Int) := of_decide_eq_true (by first | (with_reducible assumption) | assumption)
                    have q499 : x3_2 < (l0.length : Int) := of_decide_eq_true (by first | (with_reducible assumption) | assumption)
                    obtain ⟨ad499, A499_0, c499_0, e499, hx499_0, hl499_0, hi499_0⟩ := at_L1 HR0.out x3_2 p499 q499
                    cases e499
                    have HR499_0 := Aside0.mk hi499_0
                    have HC499_0 := Aside0.mk hl499_0
                    clear hi499_0 hl499_0
                    replace p499 := eq_true p499
                    replace q499 := eq_true q499
                    have p500 : 0 ≤ (x3_2 : Int) := of_decide_eq_true (by first | (with_reducible assumption) | assumption)
                    have q500 : x3_2 < (l0.length : Int) := of_decide_eq_true (by first | (with_reducible assumption) | assumption)
                    obtain ⟨ad500, A500_0, c500_0, e500, hx500_0, hl500_0, hi500_0⟩ := at_L1 HR0.out x3_2 p500 q500
                    obtain rfl : ad499 = ad500 := (by injection e500)
                    have HR500_0 := Aside0.mk hi500_0
                    have HC500_0 := Aside0.mk hl500_0
                    clear hi500_0 hl500_0
                    replace p500 := eq_true p500
                    replace q500 := eq_true q500
                    have ea_ := Option.some.inj (hx499_0.symm.trans hx500_0)
                    injection ea_ with ea_ en_ ec_
                    subst ea_
                    subst ec_
                    clear en_
                    go_wp2
                    go_meet
                    case rel => exact ⟨_, (decide (((rd_L1 l0 x3_2).length : Int) > 8)), (by first | rfl | (simp; done) | (simp [*]; done)), H', ⟨by have := HJ1.out; have := HK2.out; first | omega | exact Nat.le_refl _⟩, by repeat (first | exact Drawn0.refl _ | apply Drawn0.step)⟩
                · rw [if_neg c11] at H
                  exact absurd H (by simp)
              case rest =>
                clear HC10
                try clear c1
                try clear p2
                try clear c3
                try clear c3b0
                try clear c3b1
                try clear c4
                try clear c4b0
                try clear c4b1
                try clear p4
                try clear q4
                try clear hx4
                try clear qi4
                try clear c5
                try clear c5b0
                try clear c5b1
                try clear p5
                try clear q5
                try clear hx5
                try clear c6
                try clear c6b0
                try clear c6b1
                try clear c7
                try clear c7b0
                try clear c7b1
                try clear c8
                try clear c9
                try clear c9b0
                try clear c11
                try clear c11b0
                try clear c12
                try clear c12b0
                try clear c12b1
                try clear hx496_0
                try clear hx497_0
                try clear hx498_0
                try clear hx499_0
                try clear hx500_0
                try clear p2
                try clear p4
                try clear p496
                try clear p497
                try clear p498
                try clear p499
                try clear p500
                try clear q4
                try clear q496
                try clear q497
                try clear q498
                try clear q499
                try clear q500
                obtain ⟨kq, x47_9, rfl, HA, HJ9, ⟨mc9, rfl⟩⟩ := hcut
                cases kq with
                | zero => exact absurd HA.out (by simp [clavierref03_params.j2])
                | succ kj9 =>
                  have H := HA.out
                  clear HA
                  simp only [clavierref03_params.j2] at H
                  by_cases c13 : x47_9 = true
                  · subst c13
                    have H1 : (some false) = some r := by rw [if_pos rfl] at H; exact H
                    clear H
                    have H := H1
                    clear H1
                    obtain rfl := Option.some.inj H
                    go_wp2
                    go_ret
                    exact ⟨by first | rfl | (simp; done) | (simp [*]; done), by repeat (first | exact Drawn0.refl _ | apply Drawn0.step)⟩
                  · replace c13 := Bool.eq_false_iff.mpr c13
                    subst c13
                    have H1 : (clavierref03_params.l1 kj9 l0 x3_2 0) = some r := by rw [if_neg (show ¬ (false = true) by decide)] at H; exact H
                    clear H
                    have H := H1
                    clear H1
                    have H' := Aside0.mk H
                    clear H
                    go_wp2
                    go_loopg [4] kj9 (fun kq v4 w' => ∃ (x4_4 : Int), v4 = .int .i64 x4_4 ∧ Aside0 (clavierref03_params.l1 kq l0 x3_2 x4_4 = some r) ∧ Aside0 (kq ≤ kj9) ∧ Drawn0 w w')
                    case atStart => exact ⟨(0), (by first | rfl | (simp; done) | (simp [*]; done)), H', ⟨Nat.le_refl _⟩, by repeat (first | exact Drawn0.refl _ | apply Drawn0.step)⟩
                    case round =>
                      clear H'
                      try clear c1
                      try clear p2
                      try clear c3
                      try clear c3b0
                      try clear c3b1
                      try clear c4
                      try clear c4b0
                      try clear c4b1
                      try clear p4
                      try clear q4
                      try clear hx4
                      try clear qi4
                      try clear c5
                      try clear c5b0
                      try clear c5b1
                      try clear p5
                      try clear q5
                      try clear hx5
                      try clear c6
                      try clear c6b0
                      try clear c6b1
                      try clear c7
                      try clear c7b0
                      try clear c7b1
                      try clear c8
                      try clear c9
                      try clear c9b0
                      try clear c11
                      try clear c11b0
                      try clear c12
                      try clear c12b0
                      try clear c12b1
                      try clear c13
                      try clear hx496_0
                      try clear hx497_0
                      try clear hx498_0
                      try clear hx499_0
                      try clear hx500_0
                      try clear p2
                      try clear p4
                      try clear p496
                      try clear p497
                      try clear p498
                      try clear p499
                      try clear p5
                      try clear p500
                      try clear q4
                      try clear q496
                      try clear q497
                      try clear q498
                      try clear q499
                      try clear q5
                      try clear q500
                      obtain ⟨x4_4, rfl, HA, HK4, ⟨m4, rfl⟩⟩ := hrel
                      cases gk with
                      | zero => exact absurd HA.out (by simp [clavierref03_params.l1])
                      | succ k4 =>
                        have H := HA.out
                        clear HA
                        simp only [clavierref03_params.l1] at H
                        by_cases c14 : 0 ≤ x3_2
                        · rw [if_pos c14] at H
                          have c14b0 : decide (0 ≤ x3_2) = true := decide_eq_true c14
                          clear c14
                          by_cases c15 : x3_2 < (l0.length : Int)
                          · rw [if_pos c15] at H
                            have c15b0 : decide (x3_2 < (l0.length : Int)) = true := decide_eq_true c15
                            clear c15
                            by_cases c16 : x4_4 < ((rd_L1 l0 x3_2).length : Int)
                            · rw [if_pos c16] at H
                              have c16b0 : decide (x4_4 < ((rd_L1 l0 x3_2).length : Int)) = true := decide_eq_true c16
                              clear c16
                              by_cases c17 : 0 ≤ x4_4
                              · rw [if_pos c17] at H
                                have c17b0 : decide (0 ≤ x4_4) = true := decide_eq_true c17
                                clear c17
                                by_cases c18 : (rd (rd_L1 l0 x3_2) x4_4) < (-1)
                                · rw [if_pos c18] at H
                                  have c18b0 : decide ((rd (rd_L1 l0 x3_2) x4_4) < (-1)) = true := decide_eq_true c18
                                  clear c18
                                  obtain rfl := Option.some.inj H
                                  have p501 : 0 ≤ (x3_2 : Int) := of_decide_eq_true (by first | (with_reducible assumption) | assumption)
                                  have q501 : x3_2 < (l0.length : Int) := of_decide_eq_true (by first | (with_reducible assumption) | assumption)
                                  obtain ⟨ad501, A501_0, c501_0, e501, hx501_0, hl501_0, hi501_0⟩ := at_L1 HR0.out x3_2 p501 q501
                                  cases e501
                                  have HR501_0 := Aside0.mk hi501_0
                                  have HC501_0 := Aside0.mk hl501_0
                                  clear hi501_0 hl501_0
                                  replace p501 := eq_true p501
                                  replace q501 := eq_true q501
                                  have p502 : 0 ≤ (x3_2 : Int) := of_decide_eq_true (by first | (with_reducible assumption) | assumption)
                                  have q502 : x3_2 < (l0.length : Int) := of_decide_eq_true (by first | (with_reducible assumption) | assumption)
                                  obtain ⟨ad502, A502_0, c502_0, e502, hx502_0, hl502_0, hi502_0⟩ := at_L1 HR0.out x3_2 p502 q502
                                  obtain rfl : ad501 = ad502 := (by injection e502)
                                  have HR502_0 := Aside0.mk hi502_0
                                  have HC502_0 := Aside0.mk hl502_0
                                  clear hi502_0 hl502_0
                                  replace p502 := eq_true p502
                                  replace q502 := eq_true q502
                                  have ea_ := Option.some.inj (hx501_0.symm.trans hx502_0)
                                  injection ea_ with ea_ en_ ec_
                                  subst ea_
                                  subst ec_
                                  clear en_
                                  have p503 : 0 ≤ (x4_4 : Int) := of_decide_eq_true (by first | (with_reducible assumption) | assumption)
                                  have q503 : x4_4 < ((rd_L1 l0 x3_2).length : Int) := of_decide_eq_true (by first | (with_reducible assumption) | assumption)
                                  obtain ⟨ad503, e503, hx503_0⟩ := Kd.at_int HR502_0.out x4_4 p503 q503
                                  cases e503
                                  replace p503 := eq_true p503
                                  replace q503 := eq_true q503
                                  go_wp2
                                  go_ret
                                  exact ⟨by first | rfl | (simp; done) | (simp [*]; done), by repeat (first | exact Drawn0.refl _ | apply Drawn0.step)⟩
                                · rw [if_neg c18] at H
                                  have c18b0 : decide ((rd (rd_L1 l0 x3_2) x4_4) < (-1)) = false := decide_eq_false c18
                                  clear c18
                                  by_cases c19 : (rd (rd_L1 l0 x3_2) x4_4) > 1114111
                                  · rw [if_pos c19] at H
                                    have c19b0 : decide (1114111 < (rd (rd_L1 l0 x3_2) x4_4)) = true := decide_eq_true c19
                                    clear c19
                                    obtain rfl := Option.some.inj H
                                    have p501 : 0 ≤ (x3_2 : Int) := of_decide_eq_true (by first | (with_reducible assumption) | assumption)
                                    have q501 : x3_2 < (l0.length : Int) := of_decide_eq_true (by first | (with_reducible assumption) | assumption)
                                    obtain ⟨ad501, A501_0, c501_0, e501, hx501_0, hl501_0, hi501_0⟩ := at_L1 HR0.out x3_2 p501 q501
                                    cases e501
                                    have HR501_0 := Aside0.mk hi501_0
                                    have HC501_0 := Aside0.mk hl501_0
                                    clear hi501_0 hl501_0
                                    replace p501 := eq_true p501
                                    replace q501 := eq_true q501
                                    have p502 : 0 ≤ (x3_2 : Int) := of_decide_eq_true (by first | (with_reducible assumption) | assumption)
                                    have q502 : x3_2 < (l0.length : Int) := of_decide_eq_true (by first | (with_reducible assumption) | assumption)
                                    obtain ⟨ad502, A502_0, c502_0, e502, hx502_0, hl502_0, hi502_0⟩ := at_L1 HR0.out x3_2 p502 q502
                                    obtain rfl : ad501 = ad502 := (by injection e502)
                                    have HR502_0 := Aside0.mk hi502_0
                                    have HC502_0 := Aside0.mk hl502_0
                                    clear hi502_0 hl502_0
                                    replace p502 := eq_true p502
                                    replace q502 := eq_true q502
                                    have ea_ := Option.some.inj (hx501_0.symm.trans hx502_0)
                                    injection ea_ with ea_ en_ ec_
                                    subst ea_
                                    subst ec_
                                    clear en_
                                    have p503 : 0 ≤ (x4_4 : Int) := of_decide_eq_true (by first | (with_reducible assumption) | assumption)
                                    have q503 : x4_4 < ((rd_L1 l0 x3_2).length : Int) := of_decide_eq_true (by first | (with_reducible assumption) | assumption)
                                    obtain ⟨ad503, e503, hx503_0⟩ := Kd.at_int HR502_0.out x4_4 p503 q503
                                    cases e503
                                    replace p503 := eq_true p503
                                    replace q503 := eq_true q503
                                    have p504 : 0 ≤ (x3_2 : Int) := of_decide_eq_true (by first | (with_reducible assumption) | assumption)
                                    have q504 : x3_2 < (l0.length : Int) := of_decide_eq_true (by first | (with_reducible assumption) | assumption)
                                    obtain ⟨ad504, A504_0, c504_0, e504, hx504_0, hl504_0, hi504_0⟩ := at_L1 HR0.out x3_2 p504 q504
                                    obtain rfl : ad501 = ad504 := (by injection e504)
                                    have HR504_0 := Aside0.mk hi504_0
                                    have HC504_0 := Aside0.mk hl504_0
                                    clear hi504_0 hl504_0
                                    replace p504 := eq_true p504
                                    replace q504 := eq_true q504
                                    have ea_ := Option.some.inj (hx501_0.symm.trans hx504_0)
                                    injection ea_ with ea_ en_ ec_
                                    subst ea_
                                    subst ec_
                                    clear en_
                                    have p505 : 0 ≤ (x4_4 : Int) := of_decide_eq_true (by first | (with_reducible assumption) | assumption)
                                    have q505 : x4_4 < ((rd_L1 l0 x3_2).length : Int) := of_decide_eq_true (by first | (with_reducible assumption) | assumption)
                                    obtain ⟨ad505, e505, hx505_0⟩ := Kd.at_int HR504_0.out x4_4 p505 q505
                                    cases e505
                                    replace p505 := eq_true p505
                                    replace q505 := eq_true q505
                                    go_wp2
                                    go_ret
                                    exact ⟨by first | rfl | (simp; done) | (simp [*]; done), by repeat (first | exact Drawn0.refl _ | apply Drawn0.step)⟩
                                  · rw [if_neg c19] at H
                                    have c19b0 : decide (1114111 < (rd (rd_L1 l0 x3_2) x4_4)) = false := decide_eq_false c19
                                    clear c19
                                    have H' := Aside0.mk H
                                    clear H
                                    have p501 : 0 ≤ (x3_2 : Int) := of_decide_eq_true (by first | (with_reducible assumption) | assumption)
                                    have q501 : x3_2 < (l0.length : Int) := of_decide_eq_true (by first | (with_reducible assumption) | assumption)
                                    obtain ⟨ad501, A501_0, c501_0, e501, hx501_0, hl501_0, hi501_0⟩ := at_L1 HR0.out x3_2 p501 q501
                                    cases e501
                                    have HR501_0 := Aside0.mk hi501_0
                                    have HC501_0 := Aside0.mk hl501_0
                                    clear hi501_0 hl501_0
                                    replace p501 := eq_true p501
                                    replace q501 := eq_true q501
                                    have p502 : 0 ≤ (x3_2 : Int) := of_decide_eq_true (by first | (with_reducible assumption) | assumption)
                                    have q502 : x3_2 < (l0.length : Int) := of_decide_eq_true (by first | (with_reducible assumption) | assumption)
                                    obtain ⟨ad502, A502_0, c502_0, e502, hx502_0, hl502_0, hi502_0⟩ := at_L1 HR0.out x3_2 p502 q502
                                    obtain rfl : ad501 = ad502 := (by injection e502)
                                    have HR502_0 := Aside0.mk hi502_0
                                    have HC502_0 := Aside0.mk hl502_0
                                    clear hi502_0 hl502_0
                                    replace p502 := eq_true p502
                                    replace q502 := eq_true q502
                                    have ea_ := Option.some.inj (hx501_0.symm.trans hx502_0)
                                    injection ea_ with ea_ en_ ec_
                                    subst ea_
                                    subst ec_
                                    clear en_
                                    have p503 : 0 ≤ (x4_4 : Int) := of_decide_eq_true (by first | (with_reducible assumption) | assumption)
                                    have q503 : x4_4 < ((rd_L1 l0 x3_2).length : Int) := of_decide_eq_true (by first | (with_reducible assumption) | assumption)
                                    obtain ⟨ad503, e503, hx503_0⟩ := Kd.at_int HR502_0.out x4_4 p503 q503
                                    cases e503
                                    replace p503 := eq_true p503
                                    replace q503 := eq_true q503
                                    have p504 : 0 ≤ (x3_2 : Int) := of_decide_eq_true (by first | (with_reducible assumption) | assumption)
                                    have q504 : x3_2 < (l0.length : Int) := of_decide_eq_true (by first | (with_reducible assumption) | assumption)
                                    obtain ⟨ad504, A504_0, c504_0, e504, hx504_0, hl504_0, hi504_0⟩ := at_L1 HR0.out x3_2 p504 q504
                                    obtain rfl : ad501 = ad504 := (by injection e504)
                                    have HR504_0 := Aside0.mk hi504_0
                                    have HC504_0 := Aside0.mk hl504_0
                                    clear hi504_0 hl504_0
                                    replace p504 := eq_true p504
                                    replace q504 := eq_true q504
                                    have ea_ := Option.some.inj (hx501_0.symm.trans hx504_0)
                                    injection ea_ with ea_ en_ ec_
                                    subst ea_
                                    subst ec_
                                    clear en_
                                    have p505 : 0 ≤ (x4_4 : Int) := of_decide_eq_true (by first | (with_reducible assumption) | assumption)
                                    have q505 : x4_4 < ((rd_L1 l0 x3_2).length : Int) := of_decide_eq_true (by first | (with_reducible assumption) | assumption)
                                    obtain ⟨ad505, e505, hx505_0⟩ := Kd.at_int HR504_0.out x4_4 p505 q505
                                    cases e505
                                    replace p505 := eq_true p505
                                    replace q505 := eq_true q505
                                    go_wp2
                                    go_roundg k4
                                    case measure => have := HJ1.out; have := HK2.out; have := HJ9.out; have := HK4.out; omega
                                    case rel => exact ⟨(wrap64 (x4_4 + 1)), (by first | rfl | (simp; done) | (simp [*]; done)), H', ⟨by have := HJ1.out; have := HK2.out; have := HJ9.out; have := HK4.out; omega⟩, by repeat (first | exact Drawn0.refl _ | apply Drawn0.step)⟩
                              · rw [if_neg c17] at H
                                exact absurd H (by simp)
                            · rw [if_neg c16] at H
                              have c16b0 : decide (x4_4 < ((rd_L1 l0 x3_2).length : Int)) = false := decide_eq_false c16
                              clear c16
                              have H' := Aside0.mk H
                              clear H
                              have p501 : 0 ≤ (x3_2 : Int) := of_decide_eq_true (by first | (with_reducible assumption) | assumption)
                              have q501 : x3_2 < (l0.length : Int) := of_decide_eq_true (by first | (with_reducible assumption) | assumption)
                              obtain ⟨ad501, A501_0, c501_0, e501, hx501_0, hl501_0, hi501_0⟩ := at_L1 HR0.out x3_2 p501 q501
                              cases e501
                              have HR501_0 := Aside0.mk hi501_0
                              have HC501_0 := Aside0.mk hl501_0
                              clear hi501_0 hl501_0
                              replace p501 := eq_true p501
                              replace q501 := eq_true q501
                              go_wp2
                              go_roundg k4
                              case measure => have := HJ1.out; have := HK2.out; have := HJ9.out; have := HK4.out; omega
                              case rel => exact ⟨(wrap64 (x3_2 + 1)), (by first | rfl | (simp; done) | (simp [*]; done)), H', ⟨by have := HJ1.out; have := HK2.out; have := HJ9.out; have := HK4.out; omega⟩, by repeat (first | exact Drawn0.refl _ | apply Drawn0.step)⟩
                          · rw [if_neg c15] at H
                            exact absurd H (by simp)
                        · rw [if_neg c14] at H
                          exact absurd H (by simp)
            · rw [if_neg c9] at H
              have c9b0 : decide (x3_2 < (l0.length : Int)) = false := decide_eq_false c9
              clear c9
              obtain rfl := Option.some.inj H
              go_wp2
              go_ret
              exact ⟨by first | rfl | (simp; done) | (simp [*]; done), by repeat (first | exact Drawn0.refl _ | apply Drawn0.step)⟩
def clavierref03_within.l0 : Nat → ByteArray → Int → Int → Int → Option (Bool)
  | 0, _, _, _, _ => none
  | k + 1, x0, x1, x2, x7 => if x7 < (x0.size : Int) then (if 0 ≤ x7 then (if (bt x0 x7) < x1 then (some false) else (if (bt x0 x7) > x2 then (some false) else (clavierref03_within.l0 k x0 x1 x2 (wrap64 (x7 + 1))))) else (none)) else (some true)
def clavierref03_within.f (k : Nat) (a0 : ByteArray) (a1 : Int) (a2 : Int) : Option (Bool) := clavierref03_within.l0 k a0 a1 a2 0
theorem clavierref03_within.mono_l : ∀ k, (∀ y0 y1 y2 y3, LeO (clavierref03_within.l0 k y0 y1 y2 y3) (clavierref03_within.l0 (k + 1) y0 y1 y2 y3))
  | 0 => fun _ _ _ _ r h => by simp [clavierref03_within.l0] at h
  | k + 1 => by
    have ih0 := clavierref03_within.mono_l k
    · intro y0 y1 y2 y3
      unfold clavierref03_within.l0
      repeat' first
      | (with_reducible exact ih0 _ _ _ _)
      | (with_reducible exact LeO.refl _)
      | (with_reducible exact LeO.none _)
      | (with_reducible refine LeO.ite ?_ ?_)
      | (with_reducible refine LeO.bind ?_ (fun _ => ?_))
      | exact ih0 _ _ _ _
      | exact LeO.none _
      | refine LeO.ite ?_ ?_
      | refine LeO.bind ?_ (fun _ => ?_)
theorem clavierref03_within.mono : ∀ a0 a1 a2 k, LeO (clavierref03_within.f k a0 a1 a2) (clavierref03_within.f (k + 1) a0 a1 a2) := by
  intro a0 a1 a2 k
  have ih0 := clavierref03_within.mono_l k
  unfold clavierref03_within.f
  repeat' first
      | (with_reducible exact ih0 _ _ _ _)
      | (with_reducible exact LeO.refl _)
      | (with_reducible exact LeO.none _)
      | (with_reducible refine LeO.ite ?_ ?_)
      | (with_reducible refine LeO.bind ?_ (fun _ => ?_))
      | exact ih0 _ _ _ _
      | exact LeO.none _
      | refine LeO.ite ?_ ?_
      | refine LeO.bind ?_ (fun _ => ?_)
set_option maxHeartbeats 8000000 in
set_option maxRecDepth 100000 in
theorem clavierref03_within.calls (k : Nat) (a0 : ByteArray) (a1 : Int) (a2 : Int) (r : Bool) (w : World) (h : clavierref03_within.f k a0 a1 a2 = some r) :
    Calls Tryd.prog 35 #[.string a0, .int .u8 a1, .int .u8 a2] w fun e w' => e = .returned (.bool r) ∧ Drawn0 w w' := by
  have H : (clavierref03_within.l0 k a0 a1 a2 0) = some r := h
  clear h
  have H' := Aside0.mk H
  clear H
  go_enter Tryd.func35, Tryd.ntmps35
  go_wp2
  go_loopg [7] k (fun kq v7 w' => ∃ (x7_1 : Int), v7 = .int .i64 x7_1 ∧ Aside0 (clavierref03_within.l0 kq a0 a1 a2 x7_1 = some r) ∧ Aside0 (kq ≤ k) ∧ Drawn0 w w')
  case atStart => exact ⟨(0), (by first | rfl | (simp; done) | (simp [*]; done)), H', ⟨Nat.le_refl _⟩, by repeat (first | exact Drawn0.refl _ | apply Drawn0.step)⟩
  case round =>
    clear H'
    try clear p2
    try clear c3
    obtain ⟨x7_1, rfl, HA, HK1, ⟨m1, rfl⟩⟩ := hrel
    cases gk with
    | zero => exact absurd HA.out (by simp [clavierref03_within.l0])
    | succ k1 =>
      have H := HA.out
      clear HA
      simp only [clavierref03_within.l0] at H
      by_cases c4 : x7_1 < (a0.size : Int)
      · rw [if_pos c4] at H
        have c4b0 : decide (x7_1 < (a0.size : Int)) = true := decide_eq_true c4
        clear c4
        by_cases c5 : 0 ≤ x7_1
        · rw [if_pos c5] at H
          have c5b0 : decide (0 ≤ x7_1) = true := decide_eq_true c5
          clear c5
          by_cases c7 : (bt a0 x7_1) < a1
          · rw [if_pos c7] at H
            have c7b0 : decide ((bt a0 x7_1) < a1) = true := decide_eq_true c7
            clear c7
            obtain rfl := Option.some.inj H
            have p6 : 0 ≤ (x7_1 : Int) := of_decide_eq_true (by first | (with_reducible assumption) | assumption)
            have q6 : x7_1 < (a0.size : Int) := of_decide_eq_true (by first | (with_reducible assumption) | assumption)
            have hx6 := bt_at a0 x7_1
            replace p6 := eq_true p6
            replace q6 := eq_true q6
            go_wp2
            go_ret
            exact ⟨by first | rfl | (simp; done) | (simp [*]; done), by repeat (first | exact Drawn0.refl _ | apply Drawn0.step)⟩
          · rw [if_neg c7] at H
            have c7b0 : decide ((bt a0 x7_1) < a1) = false := decide_eq_false c7
            clear c7
            by_cases c9 : (bt a0 x7_1) > a2
            · rw [if_pos c9] at H
              have c9b0 : decide (a2 < (bt a0 x7_1)) = true := decide_eq_true c9
              clear c9
              obtain rfl := Option.some.inj H
              have p6 : 0 ≤ (x7_1 : Int) := of_decide_eq_true (by first | (with_reducible assumption) | assumption)
              have q6 : x7_1 < (a0.size : Int) := of_decide_eq_true (by first | (with_reducible assumption) | assumption)
              have hx6 := bt_at a0 x7_1
              replace p6 := eq_true p6
              replace q6 := eq_true q6
              have p8 : 0 ≤ (x7_1 : Int) := of_decide_eq_true (by first | (with_reducible assumption) | assumption)
              have q8 : x7_1 < (a0.size : Int) := of_decide_eq_true (by first | (with_reducible assumption) | assumption)
              have hx8 := bt_at a0 x7_1
              replace p8 := eq_true p8
              replace q8 := eq_true q8
              go_wp2
              go_ret
              exact ⟨by first | rfl | (simp; done) | (simp [*]; done), by repeat (first | exact Drawn0.refl _ | apply Drawn0.step)⟩
            · rw [if_neg c9] at H
              have c9b0 : decide (a2 < (bt a0 x7_1)) = false := decide_eq_false c9
              clear c9
              have H' := Aside0.mk H
              clear H
              have p6 : 0 ≤ (x7_1 : Int) := of_decide_eq_true (by first | (with_reducible assumption) | assumption)
              have q6 : x7_1 < (a0.size : Int) := of_decide_eq_true (by first | (with_reducible assumption) | assumption)
              have hx6 := bt_at a0 x7_1
              replace p6 := eq_true p6
              replace q6 := eq_true q6
              have p8 : 0 ≤ (x7_1 : Int) := of_decide_eq_true (by first | (with_reducible assumption) | assumption)
              have q8 : x7_1 < (a0.size : Int) := of_decide_eq_true (by first | (with_reducible assumption) | assumption)
              have hx8 := bt_at a0 x7_1
              replace p8 := eq_true p8
              replace q8 := eq_true q8
              go_wp2
              go_roundg k1
              case measure => have := HK1.out; omega
              case rel => exact ⟨(wrap64 (x7_1 + 1)), (by first | rfl | (simp; done) | (simp [*]; done)), H', ⟨by have := HK1.out; omega⟩, by repeat (first | exact Drawn0.refl _ | apply Drawn0.step)⟩
        · rw [if_neg c5] at H
          exact absurd H (by simp)
      · rw [if_neg c4] at H
        have c4b0 : decide (x7_1 < (a0.size : Int)) = false := decide_eq_false c4
        clear c4
        obtain rfl := Option.some.inj H
        go_wp2
        go_ret
        exact ⟨by first | rfl | (simp; done) | (simp [*]; done), by repeat (first | exact Drawn0.refl _ | apply Drawn0.step)⟩
end Go.Proofs.YtbaigfoioiklkaaDoor.G
end
section
namespace Go.Proofs.YtbaigfoioiklkaaDoor.G
open Go.RowKit Go.Proofs.YtbaigfoioiklkaaDoorW.PrintWords Go.Proofs.YtbaigfoioiklkaaDoorW.PrintLast Go.Proofs.YtbaigfoioiklkaaDoorW.PrintMore
attribute [local go_sem] max2_int min2_int max_two min_two max_three min_three max_four min_four
set_option linter.unusedVariables false
set_option linter.unusedSimpArgs false
def clavierref03_last.j0 : Nat → Int → Bool → Int → Int → List (List Int) → ByteArray → Int → ByteArray → Option (Bool)
  | 0, _, _, _, _, _, _, _, _ => none
  | k + 1, x5, x6, x507000, x507001, x507002, x507003, x507004, x507005 => if x6 = true then (if x507004 ≥ 64 then (some (decide (x507004 ≤ 126))) else (some false)) else (if x5 = 5 then (if x507004 < 48 then (some false) else (if x507004 > 126 then (some false) else (if (x507003.size : Int) > 0 then (some true) else (if x507004 = 79 then (some false) else (if x507004 = 80 then (some false) else (if x507004 = 88 then (some false) else (if x507004 = 91 then (some false) else (if x507004 = 93 then (some false) else (if x507004 = 92 then (some false) else (if x507004 = 94 then (some false) else (some (x507004 != 95)))))))))))) else (if x507000 = 4 then (some (x507004 == 0)) else (some false)))
def clavierref03_last.f (k : Nat) (a0_0 : Int) (a0_1 : Int) (l0_2 : List (List Int)) (a0_3 : ByteArray) (a0_4 : Int) (a0_5 : ByteArray) : Option (Bool) := if a0_0 = 1 then (clavierref03_last.j0 k a0_0 (a0_0 == 1) a0_0 a0_1 l0_2 a0_3 a0_4 a0_5) else (if a0_0 = 2 then (clavierref03_last.j0 k a0_0 (a0_0 == 2) a0_0 a0_1 l0_2 a0_3 a0_4 a0_5) else (clavierref03_last.j0 k a0_0 (a0_0 == 3) a0_0 a0_1 l0_2 a0_3 a0_4 a0_5))
theorem clavierref03_last.mono_l : ∀ k, (∀ y0 y1 y2 y3 y4 y5 y6 y7, LeO (clavierref03_last.j0 k y0 y1 y2 y3 y4 y5 y6 y7) (clavierref03_last.j0 (k + 1) y0 y1 y2 y3 y4 y5 y6 y7))
  | 0 => fun _ _ _ _ _ _ _ _ r h => by simp [clavierref03_last.j0] at h
  | k + 1 => by
    have ih0 := clavierref03_last.mono_l k
    · intro y0 y1 y2 y3 y4 y5 y6 y7
      unfold clavierref03_last.j0
      repeat' first
      | (with_reducible exact ih0 _ _ _ _ _ _ _ _)
      | (with_reducible exact LeO.refl _)
      | (with_reducible exact LeO.none _)
      | (with_reducible refine LeO.ite ?_ ?_)
      | (with_reducible refine LeO.bind ?_ (fun _ => ?_))
      | exact ih0 _ _ _ _ _ _ _ _
      | exact LeO.none _
      | refine LeO.ite ?_ ?_
      | refine LeO.bind ?_ (fun _ => ?_)
theorem clavierref03_last.mono : ∀ a0 a1 a2 a3 a4 a5 k, LeO (clavierref03_last.f k a0 a1 a2 a3 a4 a5) (clavierref03_last.f (k + 1) a0 a1 a2 a3 a4 a5) := by
  intro a0 a1 a2 a3 a4 a5 k
  have ih0 := clavierref03_last.mono_l k
  unfold clavierref03_last.f
  repeat' first
      | (with_reducible exact ih0 _ _ _ _ _ _ _ _)
      | (with_reducible exact LeO.refl _)
      | (with_reducible exact LeO.none _)
      | (with_reducible refine LeO.ite ?_ ?_)
      | (with_reducible refine LeO.bind ?_ (fun _ => ?_))
      | exact ih0 _ _ _ _ _ _ _ _
      | exact LeO.none _
      | refine LeO.ite ?_ ?_
      | refine LeO.bind ?_ (fun _ => ?_)
set_option maxHeartbeats 8000000 in
set_option maxRecDepth 100000 in
theorem clavierref03_last.calls (k : Nat) (a0_0 : Int) (a0_1 : Int) (A0_2 : Option Addr) (c0_2 : Nat) (l0_2 : List (List Int)) (a0_3 : ByteArray) (a0_4 : Int) (a0_5 : ByteArray) (r : Bool) (w : World) (hr0_2 : Kd.C (Kd.slice 3 (Kd.int .i64)) w A0_2 l0_2.length l0_2) (hc0_2 : l0_2.length ≤ c0_2) (h : clavierref03_last.f k a0_0 a0_1 l0_2 a0_3 a0_4 a0_5 = some r) :
    Calls Tryd.prog 36 #[.agg #[.int .i64 a0_0, .int .u8 a0_1, .slice A0_2 l0_2.length c0_2, .string a0_3, .int .u8 a0_4, .string a0_5]] w fun e w' => e = .returned (.bool r) ∧ Below w.heap.size w w' := by
  have hu37 := Tryd.underlying37
  have HR0_2 := Aside0.mk hr0_2
  have HC0_2 := Aside0.mk hc0_2
  clear hr0_2 hc0_2
  have HB := Aside0.mk (Below.refl w.heap.size w)
  have H : (if a0_0 = 1 then (clavierref03_last.j0 k a0_0 (a0_0 == 1) a0_0 a0_1 l0_2 a0_3 a0_4 a0_5) else (if a0_0 = 2 then (clavierref03_last.j0 k a0_0 (a0_0 == 2) a0_0 a0_1 l0_2 a0_3 a0_4 a0_5) else (clavierref03_last.j0 k a0_0 (a0_0 == 3) a0_0 a0_1 l0_2 a0_3 a0_4 a0_5))) = some r := h
  clear h
  have HC2 := Aside0.mk H
  clear H
  go_enter Tryd.func36, Tryd.ntmps36
  go_upto_if 6 with (first | ((with_reducible refine gate_dst (N := 1) rfl ?_); refine box_event ?hg (N := 1) ?hd (cs := #[.int .i64 a0_0, .int .u8 a0_1, .slice A0_2 l0_2.length c0_2, .string a0_3, .int .u8 a0_4, .string a0_5]) (t := 37) ?hr ?_; (case hd => rfl); (case hg => rfl); (case hr => first | (go_simp; done) | (go_simp; rfl)); intro gb506 hg w3 hbox hb; have n0_ := Aside0.mk (below_step (by repeat (first | (with_reducible first | exact HB.out | apply la1 | apply ln1 | apply ld1) | exact HB.out)) hb); have n1_ := Aside0.mk (hbox); have n2_ := Aside0.mk ((by rw [hg]; exact (below_size (by repeat (first | (with_reducible first | exact HB.out | apply la1 | apply ln1 | apply ld1) | exact HB.out))) : w.heap.size ≤ gb506)); have n3_ := Aside0.mk ((by rw [hg]; exact (below_size (by repeat (first | (with_reducible first | exact HB.out | apply la1 | apply ln1 | apply ld1) | exact HB.out))) : w.heap.size ≤ gb506)); clear HB; have HB := n0_; have BK506 := n1_; have GW506 := n2_; have GE506 := n3_; clear n0_ n1_ n2_ n3_; clear hb hbox hg; have hcz4_0 : w3.cell? ⟨gb506, 0, none⟩ = some (.int .i64 a0_0) := (bc1 BK506.out 0).trans rfl; have hcz4_1 : w3.cell? ⟨gb506, 1, none⟩ = some (.int .u8 a0_1) := (bc1 BK506.out 1).trans rfl; have hcz4_2 : w3.cell? ⟨gb506, 2, none⟩ = some (.slice A0_2 l0_2.length c0_2) := (bc1 BK506.out 2).trans rfl; have hcz4_3 : w3.cell? ⟨gb506, 3, none⟩ = some (.string a0_3) := (bc1 BK506.out 3).trans rfl; have hcz4_4 : w3.cell? ⟨gb506, 4, none⟩ = some (.int .u8 a0_4) := (bc1 BK506.out 4).trans rfl; have hcz4_5 : w3.cell? ⟨gb506, 5, none⟩ = some (.string a0_5) := (bc1 BK506.out 5).trans rfl; have hfz4_0 := bz1 BK506.out 0; have hfz4_1 := bz1 BK506.out 1; have hfz4_2 := bz1 BK506.out 2; have hfz4_3 := bz1 BK506.out 3; have hfz4_4 := bz1 BK506.out 4; have hfz4_5 := bz1 BK506.out 5))
  (try simp only [Act.put, List.setIfInBounds_toArray, List.set_cons_zero, List.set_cons_succ])
  go_cut [6] (fun v6 wc => ∃ (kq : Nat) (x6_1 : Bool), v6 = .bool x6_1 ∧ Aside0 (clavierref03_last.j0 kq a0_0 x6_1 a0_0 a0_1 l0_2 a0_3 a0_4 a0_5 = some r) ∧ Aside0 (kq ≤ k) ∧ Aside0 (wc.heap[gb506]? = some (.cells #[.int .i64 a0_0, .int .u8 a0_1, (.slice A0_2 l0_2.length c0_2), .string a0_3, .int .u8 a0_4, .string a0_5] 37 (0, 0))) ∧ Aside0 (Below w.heap.size w wc))
  case first =>
    have H := HC2.out
    clear HC2
    by_cases c5 : a0_0 = 1
    · rw [if_pos c5] at H
      have c5b0 : (a0_0 == 1) = true := beq_iff_eq.mpr c5
      have c5b1 : (a0_0 != 1) = false := bne_eq_false_iff_eq.mpr c5
      clear c5
      (first | rw [c5b0] | (simp only [i64_w, i32_w]; rw [c5b0]) | skip)
      have H' := Aside0.mk H
      clear H
      go_wp2
      go_meet
      case rel => exact ⟨_, ((a0_0 == 1)), (by first | rfl | (simp; done) | (simp [*]; done)), H', ⟨by first | omega | exact Nat.le_refl _⟩, ⟨by (with_reducible repeat (first | refine bn1 ?_ _ | refine bd1 ?_ | refine ba1 ?_ _)); exact BK506.out⟩, ⟨by repeat (first | (with_reducible first | exact HB.out | apply la1 | apply ln1 | apply ld1 | refine ls1 ?_ GE506.out) | exact HB.out)⟩⟩
    · rw [if_neg c5] at H
      have c5b0 : (a0_0 == 1) = false := beq_eq_false_iff_ne.mpr c5
      have c5b1 : (a0_0 != 1) = true := bne_iff_ne.mpr c5
      (first | rw [c5b0] | (simp only [i64_w, i32_w]; rw [c5b0]) | skip)
      by_cases c6 : a0_0 = 2
      · rw [if_pos c6] at H
        have c6b0 : (a0_0 == 2) = true := beq_iff_eq.mpr c6
        have c6b1 : (a0_0 != 2) = false := bne_eq_false_iff_eq.mpr c6
        clear c6
        have H' := Aside0.mk H
        clear H
        go_wp2
        go_meet
        case rel => exact ⟨_, ((a0_0 == 2)), (by first | rfl | (simp; done) | (simp [*]; done)), H', ⟨by first | omega | exact Nat.le_refl _⟩, ⟨by (with_reducible repeat (first | refine bn1 ?_ _ | refine bd1 ?_ | refine ba1 ?_ _)); exact BK506.out⟩, ⟨by repeat (first | (with_reducible first | exact HB.out | apply la1 | apply ln1 | apply ld1 | refine ls1 ?_ GE506.out) | exact HB.out)⟩⟩
      · rw [if_neg c6] at H
        have c6b0 : (a0_0 == 2) = false := beq_eq_false_iff_ne.mpr c6
        have c6b1 : (a0_0 != 2) = true := bne_iff_ne.mpr c6
        have H' := Aside0.mk H
        clear H
        go_wp2
        go_meet
        case rel => exact ⟨_, ((a0_0 == 3)), (by first | rfl | (simp; done) | (simp [*]; done)), H', ⟨by first | omega | exact Nat.le_refl _⟩, ⟨by (with_reducible repeat (first | refine bn1 ?_ _ | refine bd1 ?_ | refine ba1 ?_ _)); exact BK506.out⟩, ⟨by repeat (first | (with_reducible first | exact HB.out | apply la1 | apply ln1 | apply ld1 | refine ls1 ?_ GE506.out) | exact HB.out)⟩⟩
  case rest =>
    clear HC2
    try clear p2
    try clear c3
    try clear c5
    try clear c5b0
    try clear c5b1
    try clear c6
    try clear c6b0
    try clear c6b1
    try clear hcz4_0
    try clear hcz4_1
    try clear hcz4_2
    try clear hcz4_3
    try clear hcz4_4
    try clear hcz4_5
    try clear hfz4_0
    try clear hfz4_1
    try clear hfz4_2
    try clear hfz4_3
    try clear hfz4_4
    try clear hfz4_5
    obtain ⟨kq, x6_1, rfl, HA, HJ1, BK506, HB⟩ := hcut
    cases kq with
    | zero => exact absurd HA.out (by simp [clavierref03_last.j0])
    | succ kj1 =>
      have H := HA.out
      clear HA
      simp only [clavierref03_last.j0] at H
      by_cases c7 : x6_1 = true
      · subst c7
        have H1 : (if a0_4 ≥ 64 then (some (decide (a0_4 ≤ 126))) else (some false)) = some r := by rw [if_pos rfl] at H; exact H
        clear H
        have H := H1
        clear H1
        by_cases c8 : a0_4 ≥ 64
        · rw [if_pos c8] at H
          have c8b0 : decide (64 ≤ a0_4) = true := decide_eq_true c8
          clear c8
          obtain rfl := Option.some.inj H
          have hcz9_0 : wc.cell? ⟨gb506, 0, none⟩ = some (.int .i64 a0_0) := (bc1 BK506.out 0).trans rfl
          have hcz9_1 : wc.cell? ⟨gb506, 1, none⟩ = some (.int .u8 a0_1) := (bc1 BK506.out 1).trans rfl
          have hcz9_2 : wc.cell? ⟨gb506, 2, none⟩ = some (.slice A0_2 l0_2.length c0_2) := (bc1 BK506.out 2).trans rfl
          have hcz9_3 : wc.cell? ⟨gb506, 3, none⟩ = some (.string a0_3) := (bc1 BK506.out 3).trans rfl
          have hcz9_4 : wc.cell? ⟨gb506, 4, none⟩ = some (.int .u8 a0_4) := (bc1 BK506.out 4).trans rfl
          have hcz9_5 : wc.cell? ⟨gb506, 5, none⟩ = some (.string a0_5) := (bc1 BK506.out 5).trans rfl
          have hfz9_0 := bz1 BK506.out 0
          have hfz9_1 := bz1 BK506.out 1
          have hfz9_2 := bz1 BK506.out 2
          have hfz9_3 := bz1 BK506.out 3
          have hfz9_4 := bz1 BK506.out 4
          have hfz9_5 := bz1 BK506.out 5
          go_wp2
          go_ret
          exact ⟨by first | rfl | (simp [errW_none, errW_some] <;> rfl) | (simp [*, errW_none, errW_some] <;> rfl), by repeat (first | (with_reducible first | exact HB.out | apply la1 | apply ln1 | apply ld1 | refine ls1 ?_ GE506.out) | exact HB.out)⟩
        · rw [if_neg c8] at H
          have c8b0 : decide (64 ≤ a0_4) = false := decide_eq_false c8
          clear c8
          obtain rfl := Option.some.inj H
          have hcz10_0 : wc.cell? ⟨gb506, 0, none⟩ = some (.int .i64 a0_0) := (bc1 BK506.out 0).trans rfl
          have hcz10_1 : wc.cell? ⟨gb506, 1, none⟩ = some (.int .u8 a0_1) := (bc1 BK506.out 1).trans rfl
          have hcz10_2 : wc.cell? ⟨gb506, 2, none⟩ = some (.slice A0_2 l0_2.length c0_2) := (bc1 BK506.out 2).trans rfl
          have hcz10_3 : wc.cell? ⟨gb506, 3, none⟩ = some (.string a0_3) := (bc1 BK506.out 3).trans rfl
          have hcz10_4 : wc.cell? ⟨gb506, 4, none⟩ = some (.int .u8 a0_4) := (bc1 BK506.out 4).trans rfl
          have hcz10_5 : wc.cell? ⟨gb506, 5, none⟩ = some (.string a0_5) := (bc1 BK506.out 5).trans rfl
          have hfz10_0 := bz1 BK506.out 0
          have hfz10_1 := bz1 BK506.out 1
          have hfz10_2 := bz1 BK506.out 2
          have hfz10_3 := bz1 BK506.out 3
          have hfz10_4 := bz1 BK506.out 4
          have hfz10_5 := bz1 BK506.out 5
          go_wp2
          go_ret
          exact ⟨by first | rfl | (simp [errW_none, errW_some] <;> rfl) | (simp [*, errW_none, errW_some] <;> rfl), by repeat (first | (with_reducible first | exact HB.out | apply la1 | apply ln1 | apply ld1 | refine ls1 ?_ GE506.out) | exact HB.out)⟩
      · replace c7 := Bool.eq_false_iff.mpr c7
        subst c7
        have H1 : (if a0_0 = 5 then (if a0_4 < 48 then (some false) else (if a0_4 > 126 then (some false) else (if (a0_3.size : Int) > 0 then (some true) else (if a0_4 = 79 then (some false) else (if a0_4 = 80 then (some false) else (if a0_4 = 88 then (some false) else (if a0_4 = 91 then (some false) else (if a0_4 = 93 then (some false) else (if a0_4 = 92 then (some false) else (if a0_4 = 94 then (some false) else (some (a0_4 != 95)))))))))))) else (if a0_0 = 4 then (some (a0_4 == 0)) else (some false))) = some r := by rw [if_neg (show ¬ (false = true) by decide)] at H; exact H
        clear H
        have H := H1
        clear H1
        by_cases c11 : a0_0 = 5
        · rw [if_pos c11] at H
          have c11b0 : (a0_0 == 5) = true := beq_iff_eq.mpr c11
          have c11b1 : (a0_0 != 5) = false := bne_eq_false_iff_eq.mpr c11
          clear c11
          by_cases c12 : a0_4 < 48
          · rw [if_pos c12] at H
            have c12b0 : decide (a0_4 < 48) = true := decide_eq_true c12
            clear c12
            obtain rfl := Option.some.inj H
            have hcz13_0 : wc.cell? ⟨gb506, 0, none⟩ = some (.int .i64 a0_0) := (bc1 BK506.out 0).trans rfl
            have hcz13_1 : wc.cell? ⟨gb506, 1, none⟩ = some (.int .u8 a0_1) := (bc1 BK506.out 1).trans rfl
            have hcz13_2 : wc.cell? ⟨gb506, 2, none⟩ = some (.slice A0_2 l0_2.length c0_2) := (bc1 BK506.out 2).trans rfl
            have hcz13_3 : wc.cell? ⟨gb506, 3, none⟩ = some (.string a0_3) := (bc1 BK506.out 3).trans rfl
            have hcz13_4 : wc.cell? ⟨gb506, 4, none⟩ = some (.int .u8 a0_4) := (bc1 BK506.out 4).trans rfl
            have hcz13_5 : wc.cell? ⟨gb506, 5, none⟩ = some (.string a0_5) := (bc1 BK506.out 5).trans rfl
            have hfz13_0 := bz1 BK506.out 0
            have hfz13_1 := bz1 BK506.out 1
            have hfz13_2 := bz1 BK506.out 2
            have hfz13_3 := bz1 BK506.out 3
            have hfz13_4 := bz1 BK506.out 4
            have hfz13_5 := bz1 BK506.out 5
            go_wp2
            go_ret
            exact ⟨by first | rfl | (simp [errW_none, errW_some] <;> rfl) | (simp [*, errW_none, errW_some] <;> rfl), by repeat (first | (with_reducible first | exact HB.out | apply la1 | apply ln1 | apply ld1 | refine ls1 ?_ GE506.out) | exact HB.out)⟩
          · rw [if_neg c12] at H
            have c12b0 : decide (a0_4 < 48) = false := decide_eq_false c12
            clear c12
            by_cases c14 : a0_4 > 126
            · rw [if_pos c14] at H
              have c14b0 : decide (126 < a0_4) = true := decide_eq_true c14
              clear c14
              obtain rfl := Option.some.inj H
              have hcz15_0 : wc.cell? ⟨gb506, 0, none⟩ = some (.int .i64 a0_0) := (bc1 BK506.out 0).trans rfl
              have hcz15_1 : wc.cell? ⟨gb506, 1, none⟩ = some (.int .u8 a0_1) := (bc1 BK506.out 1).trans rfl
              have hcz15_2 : wc.cell? ⟨gb506, 2, none⟩ = some (.slice A0_2 l0_2.length c0_2) := (bc1 BK506.out 2).trans rfl
              have hcz15_3 : wc.cell? ⟨gb506, 3, none⟩ = some (.string a0_3) := (bc1 BK506.out 3).trans rfl
              have hcz15_4 : wc.cell? ⟨gb506, 4, none⟩ = some (.int .u8 a0_4) := (bc1 BK506.out 4).trans rfl
              have hcz15_5 : wc.cell? ⟨gb506, 5, none⟩ = some (.string a0_5) := (bc1 BK506.out 5).trans rfl
              have hfz15_0 := bz1 BK506.out 0
              have hfz15_1 := bz1 BK506.out 1
              have hfz15_2 := bz1 BK506.out 2
              have hfz15_3 := bz1 BK506.out 3
              have hfz15_4 := bz1 BK506.out 4
              have hfz15_5 := bz1 BK506.out 5
              go_wp2
              go_ret
              exact ⟨by first | rfl | (simp [errW_none, errW_some] <;> rfl) | (simp [*, errW_none, errW_some] <;> rfl), by repeat (first | (with_reducible first | exact HB.out | apply la1 | apply ln1 | apply ld1 | refine ls1 ?_ GE506.out) | exact HB.out)⟩
            · rw [if_neg c14] at H
              have c14b0 : decide (126 < a0_4) = false := decide_eq_false c14
              clear c14
              by_cases c16 : (a0_3.size : Int) > 0
              · rw [if_pos c16] at H
                have c16b0 : decide (0 < (a0_3.size : Int)) = true := decide_eq_true c16
                have c16b1 : decide (0 < a0_3.size) = true := decide_eq_true (by omega)
                clear c16
                obtain rfl := Option.some.inj H
                have hcz17_0 : wc.cell? ⟨gb506, 0, none⟩ = some (.int .i64 a0_0) := (bc1 BK506.out 0).trans rfl
                have hcz17_1 : wc.cell? ⟨gb506, 1, none⟩ = some (.int .u8 a0_1) := (bc1 BK506.out 1).trans rfl
                have hcz17_2 : wc.cell? ⟨gb506, 2, none⟩ = some (.slice A0_2 l0_2.length c0_2) := (bc1 BK506.out 2).trans rfl
                have hcz17_3 : wc.cell? ⟨gb506, 3, none⟩ = some (.string a0_3) := (bc1 BK506.out 3).trans rfl
                have hcz17_4 : wc.cell? ⟨gb506, 4, none⟩ = some (.int .u8 a0_4) := (bc1 BK506.out 4).trans rfl
                have hcz17_5 : wc.cell? ⟨gb506, 5, none⟩ = some (.string a0_5) := (bc1 BK506.out 5).trans rfl
                have hfz17_0 := bz1 BK506.out 0
                have hfz17_1 := bz1 BK506.out 1
                have hfz17_2 := bz1 BK506.out 2
                have hfz17_3 := bz1 BK506.out 3
                have hfz17_4 := bz1 BK506.out 4
                have hfz17_5 := bz1 BK506.out 5
                go_wp2
                go_ret
                exact ⟨by first | rfl | (simp [errW_none, errW_some] <;> rfl) | (simp [*, errW_none, errW_some] <;> rfl), by repeat (first | (with_reducible first | exact HB.out | apply la1 | apply ln1 | apply ld1 | refine ls1 ?_ GE506.out) | exact HB.out)⟩
              · rw [if_neg c16] at H
                have c16b0 : decide (0 < (a0_3.size : Int)) = false := decide_eq_false c16
                have c16b1 : decide (0 < a0_3.size) = false := decide_eq_false (by omega)
                clear c16
                by_cases c18 : a0_4 = 79
                · rw [if_pos c18] at H
                  have c18b0 : (a0_4 == 79) = true := beq_iff_eq.mpr c18
                  have c18b1 : (a0_4 != 79) = false := bne_eq_false_iff_eq.mpr c18
                  clear c18
                  obtain rfl := Option.some.inj H
                  have hcz19_0 : wc.cell? ⟨gb506, 0, none⟩ = some (.int .i64 a0_0) := (bc1 BK506.out 0).trans rfl
                  have hcz19_1 : wc.cell? ⟨gb506, 1, none⟩ = some (.int .u8 a0_1) := (bc1 BK506.out 1).trans rfl
                  have hcz19_2 : wc.cell? ⟨gb506, 2, none⟩ = some (.slice A0_2 l0_2.length c0_2) := (bc1 BK506.out 2).trans rfl
                  have hcz19_3 : wc.cell? ⟨gb506, 3, none⟩ = some (.string a0_3) := (bc1 BK506.out 3).trans rfl
                  have hcz19_4 : wc.cell? ⟨gb506, 4, none⟩ = some (.int .u8 a0_4) := (bc1 BK506.out 4).trans rfl
                  have hcz19_5 : wc.cell? ⟨gb506, 5, none⟩ = some (.string a0_5) := (bc1 BK506.out 5).trans rfl
                  have hfz19_0 := bz1 BK506.out 0
                  have hfz19_1 := bz1 BK506.out 1
                  have hfz19_2 := bz1 BK506.out 2
                  have hfz19_3 := bz1 BK506.out 3
                  have hfz19_4 := bz1 BK506.out 4
                  have hfz19_5 := bz1 BK506.out 5
                  go_wp2
                  go_ret
                  exact ⟨by first | rfl | (simp [errW_none, errW_some] <;> rfl) | (simp [*, errW_none, errW_some] <;> rfl), by repeat (first | (with_reducible first | exact HB.out | apply la1 | apply ln1 | apply ld1 | refine ls1 ?_ GE506.out) | exact HB.out)⟩
                · rw [if_neg c18] at H
                  have c18b0 : (a0_4 == 79) = false := beq_eq_false_iff_ne.mpr c18
                  have c18b1 : (a0_4 != 79) = true := bne_iff_ne.mpr c18
                  by_cases c20 : a0_4 = 80
                  · rw [if_pos c20] at H
                    have c20b0 : (a0_4 == 80) = true := beq_iff_eq.mpr c20
                    have c20b1 : (a0_4 != 80) = false := bne_eq_false_iff_eq.mpr c20
                    clear c20
                    obtain rfl := Option.some.inj H
                    have hcz21_0 : wc.cell? ⟨gb506, 0, none⟩ = some (.int .i64 a0_0) := (bc1 BK506.out 0).trans rfl
                    have hcz21_1 : wc.cell? ⟨gb506, 1, none⟩ = some (.int .u8 a0_1) := (bc1 BK506.out 1).trans rfl
                    have hcz21_2 : wc.cell? ⟨gb506, 2, none⟩ = some (.slice A0_2 l0_2.length c0_2) := (bc1 BK506.out 2).trans rfl
                    have hcz21_3 : wc.cell? ⟨gb506, 3, none⟩ = some (.string a0_3) := (bc1 BK506.out 3).trans rfl
                    have hcz21_4 : wc.cell? ⟨gb506, 4, none⟩ = some (.int .u8 a0_4) := (bc1 BK506.out 4).trans rfl
                    have hcz21_5 : wc.cell? ⟨gb506, 5, none⟩ = some (.string a0_5) := (bc1 BK506.out 5).trans rfl
                    have hfz21_0 := bz1 BK506.out 0
                    have hfz21_1 := bz1 BK506.out 1
                    have hfz21_2 := bz1 BK506.out 2
                    have hfz21_3 := bz1 BK506.out 3
                    have hfz21_4 := bz1 BK506.out 4
                    have hfz21_5 := bz1 BK506.out 5
                    go_wp2
                    go_ret
                    exact ⟨by first | rfl | (simp [errW_none, errW_some] <;> rfl) | (simp [*, errW_none, errW_some] <;> rfl), by repeat (first | (with_reducible first | exact HB.out | apply la1 | apply ln1 | apply ld1 | refine ls1 ?_ GE506.out) | exact HB.out)⟩
                  · rw [if_neg c20] at H
                    have c20b0 : (a0_4 == 80) = false := beq_eq_false_iff_ne.mpr c20
                    have c20b1 : (a0_4 != 80) = true := bne_iff_ne.mpr c20
                    by_cases c22 : a0_4 = 88
                    · rw [if_pos c22] at H
                      have c22b0 : (a0_4 == 88) = true := beq_iff_eq.mpr c22
                      have c22b1 : (a0_4 != 88) = false := bne_eq_false_iff_eq.mpr c22
                      clear c22
                      obtain rfl := Option.some.inj H
                      have hcz23_0 : wc.cell? ⟨gb506, 0, none⟩ = some (.int .i64 a0_0) := (bc1 BK506.out 0).trans rfl
                      have hcz23_1 : wc.cell? ⟨gb506, 1, none⟩ = some (.int .u8 a0_1) := (bc1 BK506.out 1).trans rfl
                      have hcz23_2 : wc.cell? ⟨gb506, 2, none⟩ = some (.slice A0_2 l0_2.length c0_2) := (bc1 BK506.out 2).trans rfl
                      have hcz23_3 : wc.cell? ⟨gb506, 3, none⟩ = some (.string a0_3) := (bc1 BK506.out 3).trans rfl
                      have hcz23_4 : wc.cell? ⟨gb506, 4, none⟩ = some (.int .u8 a0_4) := (bc1 BK506.out 4).trans rfl
                      have hcz23_5 : wc.cell? ⟨gb506, 5, none⟩ = some (.string a0_5) := (bc1 BK506.out 5).trans rfl
                      have hfz23_0 := bz1 BK506.out 0
                      have hfz23_1 := bz1 BK506.out 1
                      have hfz23_2 := bz1 BK506.out 2
                      have hfz23_3 := bz1 BK506.out 3
                      have hfz23_4 := bz1 BK506.out 4
                      have hfz23_5 := bz1 BK506.out 5
                      go_wp2
                      go_ret
                      exact ⟨by first | rfl | (simp [errW_none, errW_some] <;> rfl) | (simp [*, errW_none, errW_some] <;> rfl), by repeat (first | (with_reducible first | exact HB.out | apply la1 | apply ln1 | apply ld1 | refine ls1 ?_ GE506.out) | exact HB.out)⟩
                    · rw [if_neg c22] at H
                      have c22b0 : (a0_4 == 88) = false := beq_eq_false_iff_ne.mpr c22
                      have c22b1 : (a0_4 != 88) = true := bne_iff_ne.mpr c22
                      by_cases c24 : a0_4 = 91
                      · rw [if_pos c24] at H
                        have c24b0 : (a0_4 == 91) = true := beq_iff_eq.mpr c24
                        have c24b1 : (a0_4 != 91) = false := bne_eq_false_iff_eq.mpr c24
                        clear c24
                        obtain rfl := Option.some.inj H
                        have hcz25_0 : wc.cell? ⟨gb506, 0, none⟩ = some (.int .i64 a0_0) := (bc1 BK506.out 0).trans rfl
                        have hcz25_1 : wc.cell? ⟨gb506, 1, none⟩ = some (.int .u8 a0_1) := (bc1 BK506.out 1).trans rfl
                        have hcz25_2 : wc.cell? ⟨gb506, 2, none⟩ = some (.slice A0_2 l0_2.length c0_2) := (bc1 BK506.out 2).trans rfl
                        have hcz25_3 : wc.cell? ⟨gb506, 3, none⟩ = some (.string a0_3) := (bc1 BK506.out 3).trans rfl
                        have hcz25_4 : wc.cell? ⟨gb506, 4, none⟩ = some (.int .u8 a0_4) := (bc1 BK506.out 4).trans rfl
                        have hcz25_5 : wc.cell? ⟨gb506, 5, none⟩ = some (.string a0_5) := (bc1 BK506.out 5).trans rfl
                        have hfz25_0 := bz1 BK506.out 0
                        have hfz25_1 := bz1 BK506.out 1
                        have hfz25_2 := bz1 BK506.out 2
                        have hfz25_3 := bz1 BK506.out 3
                        have hfz25_4 := bz1 BK506.out 4
                        have hfz25_5 := bz1 BK506.out 5
                        go_wp2
                        go_ret
                        exact ⟨by first | rfl | (simp [errW_none, errW_some] <;> rfl) | (simp [*, errW_none, errW_some] <;> rfl), by repeat (first | (with_reducible first | exact HB.out | apply la1 | apply ln1 | apply ld1 | refine ls1 ?_ GE506.out) | exact HB.out)⟩
                      · rw [if_neg c24] at H
                        have c24b0 : (a0_4 == 91) = false := beq_eq_false_iff_ne.mpr c24
                        have c24b1 : (a0_4 != 91) = true := bne_iff_ne.mpr c24
                        by_cases c26 : a0_4 = 93
                        · rw [if_pos c26] at H
                          have c26b0 : (a0_4 == 93) = true := beq_iff_eq.mpr c26
                          have c26b1 : (a0_4 != 93) = false := bne_eq_false_iff_eq.mpr c26
                          clear c26
                          obtain rfl := Option.some.inj H
                          have hcz27_0 : wc.cell? ⟨gb506, 0, none⟩ = some (.int .i64 a0_0) := (bc1 BK506.out 0).trans rfl
                          have hcz27_1 : wc.cell? ⟨gb506, 1, none⟩ = some (.int .u8 a0_1) := (bc1 BK506.out 1).trans rfl
                          have hcz27_2 : wc.cell? ⟨gb506, 2, none⟩ = some (.slice A0_2 l0_2.length c0_2) := (bc1 BK506.out 2).trans rfl
                          have hcz27_3 : wc.cell? ⟨gb506, 3, none⟩ = some (.string a0_3) := (bc1 BK506.out 3).trans rfl
                          have hcz27_4 : wc.cell? ⟨gb506, 4, none⟩ = some (.int .u8 a0_4) := (bc1 BK506.out 4).trans rfl
                          have hcz27_5 : wc.cell? ⟨gb506, 5, none⟩ = some (.string a0_5) := (bc1 BK506.out 5).trans rfl
                          have hfz27_0 := bz1 BK506.out 0
                          have hfz27_1 := bz1 BK506.out 1
                          have hfz27_2 := bz1 BK506.out 2
                          have hfz27_3 := bz1 BK506.out 3
                          have hfz27_4 := bz1 BK506.out 4
                          have hfz27_5 := bz1 BK506.out 5
                          go_wp2
                          go_ret
                          exact ⟨by first | rfl | (simp [errW_none, errW_some] <;> rfl) | (simp [*, errW_none, errW_some] <;> rfl), by repeat (first | (with_reducible first | exact HB.out | apply la1 | apply ln1 | apply ld1 | refine ls1 ?_ GE506.out) | exact HB.out)⟩
                        · rw [if_neg c26] at H
                          have c26b0 : (a0_4 == 93) = false := beq_eq_false_iff_ne.mpr c26
                          have c26b1 : (a0_4 != 93) = true := bne_iff_ne.mpr c26
                          by_cases c28 : a0_4 = 92
                          · rw [if_pos c28] at H
                            have c28b0 : (a0_4 == 92) = true := beq_iff_eq.mpr c28
                            have c28b1 : (a0_4 != 92) = false := bne_eq_false_iff_eq.mpr c28
                            clear c28
                            obtain rfl := Option.some.inj H
                            have hcz29_0 : wc.cell? ⟨gb506, 0, none⟩ = some (.int .i64 a0_0) := (bc1 BK506.out 0).trans rfl
                            have hcz29_1 : wc.cell? ⟨gb506, 1, none⟩ = some (.int .u8 a0_1) := (bc1 BK506.out 1).trans rfl
                            have hcz29_2 : wc.cell? ⟨gb506, 2, none⟩ = some (.slice A0_2 l0_2.length c0_2) := (bc1 BK506.out 2).trans rfl
                            have hcz29_3 : wc.cell? ⟨gb506, 3, none⟩ = some (.string a0_3) := (bc1 BK506.out 3).trans rfl
                            have hcz29_4 : wc.cell? ⟨gb506, 4, none⟩ = some (.int .u8 a0_4) := (bc1 BK506.out 4).trans rfl
                            have hcz29_5 : wc.cell? ⟨gb506, 5, none⟩ = some (.string a0_5) := (bc1 BK506.out 5).trans rfl
                            have hfz29_0 := bz1 BK506.out 0
                            have hfz29_1 := bz1 BK506.out 1
                            have hfz29_2 := bz1 BK506.out 2
                            have hfz29_3 := bz1 BK506.out 3
                            have hfz29_4 := bz1 BK506.out 4
                            have hfz29_5 := bz1 BK506.out 5
                            go_wp2
                            go_ret
                            exact ⟨by first | rfl | (simp [errW_none, errW_some] <;> rfl) | (simp [*, errW_none, errW_some] <;> rfl), by repeat (first | (with_reducible first | exact HB.out | apply la1 | apply ln1 | apply ld1 | refine ls1 ?_ GE506.out) | exact HB.out)⟩
                          · rw [if_neg c28] at H
                            have c28b0 : (a0_4 == 92) = false := beq_eq_false_iff_ne.mpr c28
                            have c28b1 : (a0_4 != 92) = true := bne_iff_ne.mpr c28
                            by_cases c30 : a0_4 = 94
                            · rw [if_pos c30] at H
                              have c30b0 : (a0_4 == 94) = true := beq_iff_eq.mpr c30
                              have c30b1 : (a0_4 != 94) = false := bne_eq_false_iff_eq.mpr c30
                              clear c30
                              obtain rfl := Option.some.inj H
                              have hcz31_0 : wc.cell? ⟨gb506, 0, none⟩ = some (.int .i64 a0_0) := (bc1 BK506.out 0).trans rfl
                              have hcz31_1 : wc.cell? ⟨gb506, 1, none⟩ = some (.int .u8 a0_1) := (bc1 BK506.out 1).trans rfl
                              have hcz31_2 : wc.cell? ⟨gb506, 2, none⟩ = some (.slice A0_2 l0_2.length c0_2) := (bc1 BK506.out 2).trans rfl
                              have hcz31_3 : wc.cell? ⟨gb506, 3, none⟩ = some (.string a0_3) := (bc1 BK506.out 3).trans rfl
                              have hcz31_4 : wc.cell? ⟨gb506, 4, none⟩ = some (.int .u8 a0_4) := (bc1 BK506.out 4).trans rfl
                              have hcz31_5 : wc.cell? ⟨gb506, 5, none⟩ = some (.string a0_5) := (bc1 BK506.out 5).trans rfl
                              have hfz31_0 := bz1 BK506.out 0
                              have hfz31_1 := bz1 BK506.out 1
                              have hfz31_2 := bz1 BK506.out 2
                              have hfz31_3 := bz1 BK506.out 3
                              have hfz31_4 := bz1 BK506.out 4
                              have hfz31_5 := bz1 BK506.out 5
                              go_wp2
                              go_ret
                              exact ⟨by first | rfl | (simp [errW_none, errW_some] <;> rfl) | (simp [*, errW_none, errW_some] <;> rfl), by repeat (first | (with_reducible first | exact HB.out | apply la1 | apply ln1 | apply ld1 | refine ls1 ?_ GE506.out) | exact HB.out)⟩
                            · rw [if_neg c30] at H
                              have c30b0 : (a0_4 == 94) = false := beq_eq_false_iff_ne.mpr c30
                              have c30b1 : (a0_4 != 94) = true := bne_iff_ne.mpr c30
                              obtain rfl := Option.some.inj H
                              have hcz32_0 : wc.cell? ⟨gb506, 0, none⟩ = some (.int .i64 a0_0) := (bc1 BK506.out 0).trans rfl
                              have hcz32_1 : wc.cell? ⟨gb506, 1, none⟩ = some (.int .u8 a0_1) := (bc1 BK506.out 1).trans rfl
                              have hcz32_2 : wc.cell? ⟨gb506, 2, none⟩ = some (.slice A0_2 l0_2.length c0_2) := (bc1 BK506.out 2).trans rfl
                              have hcz32_3 : wc.cell? ⟨gb506, 3, none⟩ = some (.string a0_3) := (bc1 BK506.out 3).trans rfl
                              have hcz32_4 : wc.cell? ⟨gb506, 4, none⟩ = some (.int .u8 a0_4) := (bc1 BK506.out 4).trans rfl
                              have hcz32_5 : wc.cell? ⟨gb506, 5, none⟩ = some (.string a0_5) := (bc1 BK506.out 5).trans rfl
                              have hfz32_0 := bz1 BK506.out 0
                              have hfz32_1 := bz1 BK506.out 1
                              have hfz32_2 := bz1 BK506.out 2
                              have hfz32_3 := bz1 BK506.out 3
                              have hfz32_4 := bz1 BK506.out 4
                              have hfz32_5 := bz1 BK506.out 5
                              go_wp2
                              go_ret
                              exact ⟨by first | rfl | (simp [errW_none, errW_some] <;> rfl) | (simp [*, errW_none, errW_some] <;> rfl), by repeat (first | (with_reducible first | exact HB.out | apply la1 | apply ln1 | apply ld1 | refine ls1 ?_ GE506.out) | exact HB.out)⟩
        · rw [if_neg c11] at H
          have c11b0 : (a0_0 == 5) = false := beq_eq_false_iff_ne.mpr c11
          have c11b1 : (a0_0 != 5) = true := bne_iff_ne.mpr c11
          by_cases c33 : a0_0 = 4
          · rw [if_pos c33] at H
            have c33b0 : (a0_0 == 4) = true := beq_iff_eq.mpr c33
            have c33b1 : (a0_0 != 4) = false := bne_eq_false_iff_eq.mpr c33
            clear c33
            obtain rfl := Option.some.inj H
            have hcz34_0 : wc.cell? ⟨gb506, 0, none⟩ = some (.int .i64 a0_0) := (bc1 BK506.out 0).trans rfl
            have hcz34_1 : wc.cell? ⟨gb506, 1, none⟩ = some (.int .u8 a0_1) := (bc1 BK506.out 1).trans rfl
            have hcz34_2 : wc.cell? ⟨gb506, 2, none⟩ = some (.slice A0_2 l0_2.length c0_2) := (bc1 BK506.out 2).trans rfl
            have hcz34_3 : wc.cell? ⟨gb506, 3, none⟩ = some (.string a0_3) := (bc1 BK506.out 3).trans rfl
            have hcz34_4 : wc.cell? ⟨gb506, 4, none⟩ = some (.int .u8 a0_4) := (bc1 BK506.out 4).trans rfl
            have hcz34_5 : wc.cell? ⟨gb506, 5, none⟩ = some (.string a0_5) := (bc1 BK506.out 5).trans rfl
            have hfz34_0 := bz1 BK506.out 0
            have hfz34_1 := bz1 BK506.out 1
            have hfz34_2 := bz1 BK506.out 2
            have hfz34_3 := bz1 BK506.out 3
            have hfz34_4 := bz1 BK506.out 4
            have hfz34_5 := bz1 BK506.out 5
            go_wp2
            go_ret
            exact ⟨by first | rfl | (simp [errW_none, errW_some] <;> rfl) | (simp [*, errW_none, errW_some] <;> rfl), by repeat (first | (with_reducible first | exact HB.out | apply la1 | apply ln1 | apply ld1 | refine ls1 ?_ GE506.out) | exact HB.out)⟩
          · rw [if_neg c33] at H
            have c33b0 : (a0_0 == 4) = false := beq_eq_false_iff_ne.mpr c33
            have c33b1 : (a0_0 != 4) = true := bne_iff_ne.mpr c33
            obtain rfl := Option.some.inj H
            have hcz35_0 : wc.cell? ⟨gb506, 0, none⟩ = some (.int .i64 a0_0) := (bc1 BK506.out 0).trans rfl
            have hcz35_1 : wc.cell? ⟨gb506, 1, none⟩ = some (.int .u8 a0_1) := (bc1 BK506.out 1).trans rfl
            have hcz35_2 : wc.cell? ⟨gb506, 2, none⟩ = some (.slice A0_2 l0_2.length c0_2) := (bc1 BK506.out 2).trans rfl
            have hcz35_3 : wc.cell? ⟨gb506, 3, none⟩ = some (.string a0_3) := (bc1 BK506.out 3).trans rfl
            have hcz35_4 : wc.cell? ⟨gb506, 4, none⟩ = some (.int .u8 a0_4) := (bc1 BK506.out 4).trans rfl
            have hcz35_5 : wc.cell? ⟨gb506, 5, none⟩ = some (.string a0_5) := (bc1 BK506.out 5).trans rfl
            have hfz35_0 := bz1 BK506.out 0
            have hfz35_1 := bz1 BK506.out 1
            have hfz35_2 := bz1 BK506.out 2
            have hfz35_3 := bz1 BK506.out 3
            have hfz35_4 := bz1 BK506.out 4
            have hfz35_5 := bz1 BK506.out 5
            go_wp2
            go_ret
            exact ⟨by first | rfl | (simp [errW_none, errW_some] <;> rfl) | (simp [*, errW_none, errW_some] <;> rfl), by repeat (first | (with_reducible first | exact HB.out | apply la1 | apply ln1 | apply ld1 | refine ls1 ?_ GE506.out) | exact HB.out)⟩
end Go.Proofs.YtbaigfoioiklkaaDoor.G
end
section
namespace Go.Proofs.YtbaigfoioiklkaaDoor.G
open Go.RowKit Go.Proofs.YtbaigfoioiklkaaDoorW.PrintWords Go.Proofs.YtbaigfoioiklkaaDoorW.PrintLast Go.Proofs.YtbaigfoioiklkaaDoorW.PrintMore
attribute [local go_sem] max2_int min2_int max_two min_two max_three min_three max_four min_four
set_option linter.unusedVariables false
set_option linter.unusedSimpArgs false
mutual
def clavierref03_bare.j0 : Nat → Bool → Int → Int → List (List Int) → ByteArray → Int → ByteArray → Option (Bool)
  | 0, _, _, _, _, _, _, _ => none
  | k + 1, x3, x508000, x508001, x508002, x508003, x508004, x508005 => if x3 = true then (if x508001 = 0 then (clavierref03_bare.j1 k (decide ((x508002.length : Int) > 0)) x508000 x508001 x508002 x508003 x508004 x508005) else (clavierref03_bare.j1 k true x508000 x508001 x508002 x508003 x508004 x508005)) else (clavierref03_bare.j1 k false x508000 x508001 x508002 x508003 x508004 x508005)
def clavierref03_bare.j1 : Nat → Bool → Int → Int → List (List Int) → ByteArray → Int → ByteArray → Option (Bool)
  | 0, _, _, _, _, _, _, _ => none
  | k + 1, x28, x508000, x508001, x508002, x508003, x508004, x508005 => if x28 = true then (some false) else (if x508000 = 2 then (if x508003.toList = ([] : List UInt8) then (if x508005.toList = ([] : List UInt8) then (some true) else (if x508000 = 3 then (some true) else (some (x508000 == 4)))) else (some false)) else (if x508000 = 4 then (if x508003.toList = ([] : List UInt8) then (if x508005.toList = ([] : List UInt8) then (some true) else (if x508000 = 3 then (some true) else (some (x508000 == 4)))) else (some false)) else (if x508005.toList = ([] : List UInt8) then (some true) else (if x508000 = 3 then (some true) else (some (x508000 == 4))))))
end
def clavierref03_bare.f (k : Nat) (a0_0 : Int) (a0_1 : Int) (l0_2 : List (List Int)) (a0_3 : ByteArray) (a0_4 : Int) (a0_5 : ByteArray) : Option (Bool) := if a0_0 = 2 then (clavierref03_bare.j0 k true a0_0 a0_1 l0_2 a0_3 a0_4 a0_5) else (if a0_0 = 4 then (clavierref03_bare.j0 k true a0_0 a0_1 l0_2 a0_3 a0_4 a0_5) else (clavierref03_bare.j0 k (a0_0 == 5) a0_0 a0_1 l0_2 a0_3 a0_4 a0_5))
theorem clavierref03_bare.mono_l : ∀ k, (∀ y0 y1 y2 y3 y4 y5 y6, LeO (clavierref03_bare.j0 k y0 y1 y2 y3 y4 y5 y6) (clavierref03_bare.j0 (k + 1) y0 y1 y2 y3 y4 y5 y6)) ∧ (∀ y0 y1 y2 y3 y4 y5 y6, LeO (clavierref03_bare.j1 k y0 y1 y2 y3 y4 y5 y6) (clavierref03_bare.j1 (k + 1) y0 y1 y2 y3 y4 y5 y6))
  | 0 => ⟨fun _ _ _ _ _ _ _ r h => by simp [clavierref03_bare.j0] at h, fun _ _ _ _ _ _ _ r h => by simp [clavierref03_bare.j1] at h⟩
  | k + 1 => by
    obtain ⟨ih0, ih1⟩ := clavierref03_bare.mono_l k
    refine ⟨?_, ?_⟩
    · intro y0 y1 y2 y3 y4 y5 y6
      unfold clavierref03_bare.j0
      repeat' first
      | (with_reducible exact ih0 _ _ _ _ _ _ _)
      | (with_reducible exact ih1 _ _ _ _ _ _ _)
      | (with_reducible exact LeO.refl _)
      | (with_reducible exact LeO.none _)
      | (with_reducible refine LeO.ite ?_ ?_)
      | (with_reducible refine LeO.bind ?_ (fun _ => ?_))
      | exact ih0 _ _ _ _ _ _ _
      | exact ih1 _ _ _ _ _ _ _
      | exact LeO.none _
      | refine LeO.ite ?_ ?_
      | refine LeO.bind ?_ (fun _ => ?_)
    · intro y0 y1 y2 y3 y4 y5 y6
      unfold clavierref03_bare.j1
      repeat' first
      | (with_reducible exact ih0 _ _ _ _ _ _ _)
      | (with_reducible exact ih1 _ _ _ _ _ _ _)
      | (with_reducible exact LeO.refl _)
      | (with_reducible exact LeO.none _)
      | (with_reducible refine LeO.ite ?_ ?_)
      | (with_reducible refine LeO.bind ?_ (fun _ => ?_))
      | exact ih0 _ _ _ _ _ _ _
      | exact ih1 _ _ _ _ _ _ _
      | exact LeO.none _
      | refine LeO.ite ?_ ?_
      | refine LeO.bind ?_ (fun _ => ?_)
theorem clavierref03_bare.mono : ∀ a0 a1 a2 a3 a4 a5 k, LeO (clavierref03_bare.f k a0 a1 a2 a3 a4 a5) (clavierref03_bare.f (k + 1) a0 a1 a2 a3 a4 a5) := by
  intro a0 a1 a2 a3 a4 a5 k
  obtain ⟨ih0, ih1⟩ := clavierref03_bare.mono_l k
  unfold clavierref03_bare.f
  repeat' first
      | (with_reducible exact ih0 _ _ _ _ _ _ _)
      | (with_reducible exact ih1 _ _ _ _ _ _ _)
      | (with_reducible exact LeO.refl _)
      | (with_reducible exact LeO.none _)
      | (with_reducible refine LeO.ite ?_ ?_)
      | (with_reducible refine LeO.bind ?_ (fun _ => ?_))
      | exact ih0 _ _ _ _ _ _ _
      | exact ih1 _ _ _ _ _ _ _
      | exact LeO.none _
      | refine LeO.ite ?_ ?_
      | refine LeO.bind ?_ (fun _ => ?_)
set_option maxHeartbeats 8000000 in
set_option maxRecDepth 100000 in
theorem clavierref03_bare.calls (k : Nat) (a0_0 : Int) (a0_1 : Int) (A0_2 : Option Addr) (c0_2 : Nat) (l0_2 : List (List Int)) (a0_3 : ByteArray) (a0_4 : Int) (a0_5 : ByteArray) (r : Bool) (w : World) (hr0_2 : Kd.C (Kd.slice 3 (Kd.int .i64)) w A0_2 l0_2.length l0_2) (hc0_2 : l0_2.length ≤ c0_2) (h : clavierref03_bare.f k a0_0 a0_1 l0_2 a0_3 a0_4 a0_5 = some r) :
    Calls Tryd.prog 37 #[.agg #[.int .i64 a0_0, .int .u8 a0_1, .slice A0_2 l0_2.length c0_2, .string a0_3, .int .u8 a0_4, .string a0_5]] w fun e w' => e = .returned (.bool r) ∧ Below w.heap.size w w' := by
  have hu37 := Tryd.underlying37
  have HR0_2 := Aside0.mk hr0_2
  have HC0_2 := Aside0.mk hc0_2
  clear hr0_2 hc0_2
  have HB := Aside0.mk (Below.refl w.heap.size w)
  have H : (if a0_0 = 2 then (clavierref03_bare.j0 k true a0_0 a0_1 l0_2 a0_3 a0_4 a0_5) else (if a0_0 = 4 then (clavierref03_bare.j0 k true a0_0 a0_1 l0_2 a0_3 a0_4 a0_5) else (clavierref03_bare.j0 k (a0_0 == 5) a0_0 a0_1 l0_2 a0_3 a0_4 a0_5))) = some r := h
  clear h
  have HC2 := Aside0.mk H
  clear H
  go_enter Tryd.func37, Tryd.ntmps37
  go_upto_region 1 with (first | ((with_reducible refine gate_dst (N := 1) rfl ?_); (try (refine gate_guard (by rfl) ?_; dsimp only)); refine box_event ?hg (N := 1) ?hd (cs := #[.int .i64 a0_0, .int .u8 a0_1, .slice A0_2 l0_2.length c0_2, .string a0_3, .int .u8 a0_4, .string a0_5]) (t := 37) ?hr ?_; (case hd => rfl); (case hg => rfl); (case hr => first | (go_simp; done) | (go_simp; rfl)); intro gb507 hg w3 hbox hb; have n0_ := Aside0.mk (below_step (by repeat (first | (with_reducible first | exact HB.out | apply la1 | apply ln1 | apply ld1) | exact HB.out)) hb); have n1_ := Aside0.mk (hbox); have n2_ := Aside0.mk ((by rw [hg]; exact (below_size (by repeat (first | (with_reducible first | exact HB.out | apply la1 | apply ln1 | apply ld1) | exact HB.out))) : w.heap.size ≤ gb507)); have n3_ := Aside0.mk ((by rw [hg]; exact (below_size (by repeat (first | (with_reducible first | exact HB.out | apply la1 | apply ln1 | apply ld1) | exact HB.out))) : w.heap.size ≤ gb507)); clear HB; have HB := n0_; have BK507 := n1_; have GW507 := n2_; have GE507 := n3_; clear n0_ n1_ n2_ n3_; clear hb hbox hg))
  (try simp only [Act.put, List.setIfInBounds_toArray, List.set_cons_zero, List.set_cons_succ])
  go_cut [3] (fun v3 wc => ∃ (kq : Nat) (x3_1 : Bool), v3 = .bool x3_1 ∧ Aside0 (clavierref03_bare.j0 kq x3_1 a0_0 a0_1 l0_2 a0_3 a0_4 a0_5 = some r) ∧ Aside0 (kq ≤ k) ∧ Aside0 (wc.heap[gb507]? = some (.cells #[.int .i64 a0_0, .int .u8 a0_1, (.slice A0_2 l0_2.length c0_2), .string a0_3, .int .u8 a0_4, .string a0_5] 37 (0, 0))) ∧ Aside0 (Below w.heap.size w wc))
  case first =>
    have H := HC2.out
    clear HC2
    by_cases c4 : a0_0 = 2
    · rw [if_pos c4] at H
      have c4b0 : (a0_0 == 2) = true := beq_iff_eq.mpr c4
      have c4b1 : (a0_0 != 2) = false := bne_eq_false_iff_eq.mpr c4
      clear c4
      (first | rw [c4b0] | (simp only [i64_w, i32_w]; rw [c4b0]) | skip)
      have H' := Aside0.mk H
      clear H
      have hcz5_0 : w3.cell? ⟨gb507, 0, none⟩ = some (.int .i64 a0_0) := (bc1 BK507.out 0).trans rfl
      have hcz5_1 : w3.cell? ⟨gb507, 1, none⟩ = some (.int .u8 a0_1) := (bc1 BK507.out 1).trans rfl
      have hcz5_2 : w3.cell? ⟨gb507, 2, none⟩ = some (.slice A0_2 l0_2.length c0_2) := (bc1 BK507.out 2).trans rfl
      have hcz5_3 : w3.cell? ⟨gb507, 3, none⟩ = some (.string a0_3) := (bc1 BK507.out 3).trans rfl
      have hcz5_4 : w3.cell? ⟨gb507, 4, none⟩ = some (.int .u8 a0_4) := (bc1 BK507.out 4).trans rfl
      have hcz5_5 : w3.cell? ⟨gb507, 5, none⟩ = some (.string a0_5) := (bc1 BK507.out 5).trans rfl
      have hfz5_0 := bz1 BK507.out 0
      have hfz5_1 := bz1 BK507.out 1
      have hfz5_2 := bz1 BK507.out 2
      have hfz5_3 := bz1 BK507.out 3
      have hfz5_4 := bz1 BK507.out 4
      have hfz5_5 := bz1 BK507.out 5
      go_wp2
      go_meet
      case rel => exact ⟨_, (true), (by first | rfl | (simp; done) | (simp [*]; done)), H', ⟨by first | omega | exact Nat.le_refl _⟩, ⟨by (with_reducible repeat (first | refine bn1 ?_ _ | refine bd1 ?_ | refine ba1 ?_ _)); exact BK507.out⟩, ⟨by repeat (first | (with_reducible first | exact HB.out | apply la1 | apply ln1 | apply ld1 | refine ls1 ?_ GE507.out) | exact HB.out)⟩⟩
    · rw [if_neg c4] at H
      have c4b0 : (a0_0 == 2) = false := beq_eq_false_iff_ne.mpr c4
      have c4b1 : (a0_0 != 2) = true := bne_iff_ne.mpr c4
      (first | rw [c4b0] | (simp only [i64_w, i32_w]; rw [c4b0]) | skip)
      by_cases c6 : a0_0 = 4
      · rw [if_pos c6] at H
        have c6b0 : (a0_0 == 4) = true := beq_iff_eq.mpr c6
        have c6b1 : (a0_0 != 4) = false := bne_eq_false_iff_eq.mpr c6
        clear c6
        have H' := Aside0.mk H
        clear H
        have hcz7_0 : w3.cell? ⟨gb507, 0, none⟩ = some (.int .i64 a0_0) := (bc1 BK507.out 0).trans rfl
        have hcz7_1 : w3.cell? ⟨gb507, 1, none⟩ = some (.int .u8 a0_1) := (bc1 BK507.out 1).trans rfl
        have hcz7_2 : w3.cell? ⟨gb507, 2, none⟩ = some (.slice A0_2 l0_2.length c0_2) := (bc1 BK507.out 2).trans rfl
        have hcz7_3 : w3.cell? ⟨gb507, 3, none⟩ = some (.string a0_3) := (bc1 BK507.out 3).trans rfl
        have hcz7_4 : w3.cell? ⟨gb507, 4, none⟩ = some (.int .u8 a0_4) := (bc1 BK507.out 4).trans rfl
        have hcz7_5 : w3.cell? ⟨gb507, 5, none⟩ = some (.string a0_5) := (bc1 BK507.out 5).trans rfl
        have hfz7_0 := bz1 BK507.out 0
        have hfz7_1 := bz1 BK507.out 1
        have hfz7_2 := bz1 BK507.out 2
        have hfz7_3 := bz1 BK507.out 3
        have hfz7_4 := bz1 BK507.out 4
        have hfz7_5 := bz1 BK507.out 5
        go_wp2
        go_meet
        case rel => exact ⟨_, (true), (by first | rfl | (simp; done) | (simp [*]; done)), H', ⟨by first | omega | exact Nat.le_refl _⟩, ⟨by (with_reducible repeat (first | refine bn1 ?_ _ | refine bd1 ?_ | refine ba1 ?_ _)); exact BK507.out⟩, ⟨by repeat (first | (with_reducible first | exact HB.out | apply la1 | apply ln1 | apply ld1 | refine ls1 ?_ GE507.out) | exact HB.out)⟩⟩
      · rw [if_neg c6] at H
        have c6b0 : (a0_0 == 4) = false := beq_eq_false_iff_ne.mpr c6
        have c6b1 : (a0_0 != 4) = true := bne_iff_ne.mpr c6
        have H' := Aside0.mk H
        clear H
        have hcz8_0 : w3.cell? ⟨gb507, 0, none⟩ = some (.int .i64 a0_0) := (bc1 BK507.out 0).trans rfl
        have hcz8_1 : w3.cell? ⟨gb507, 1, none⟩ = some (.int .u8 a0_1) := (bc1 BK507.out 1).trans rfl
        have hcz8_2 : w3.cell? ⟨gb507, 2, none⟩ = some (.slice A0_2 l0_2.length c0_2) := (bc1 BK507.out 2).trans rfl
        have hcz8_3 : w3.cell? ⟨gb507, 3, none⟩ = some (.string a0_3) := (bc1 BK507.out 3).trans rfl
        have hcz8_4 : w3.cell? ⟨gb507, 4, none⟩ = some (.int .u8 a0_4) := (bc1 BK507.out 4).trans rfl
        have hcz8_5 : w3.cell? ⟨gb507, 5, none⟩ = some (.string a0_5) := (bc1 BK507.out 5).trans rfl
        have hfz8_0 := bz1 BK507.out 0
        have hfz8_1 := bz1 BK507.out 1
        have hfz8_2 := bz1 BK507.out 2
        have hfz8_3 := bz1 BK507.out 3
        have hfz8_4 := bz1 BK507.out 4
        have hfz8_5 := bz1 BK507.out 5
        go_wp2
        go_meet
        case rel => exact ⟨_, ((a0_0 == 5)), (by first | rfl | (simp; done) | (simp [*]; done)), H', ⟨by first | omega | exact Nat.le_refl _⟩, ⟨by (with_reducible repeat (first | refine bn1 ?_ _ | refine bd1 ?_ | refine ba1 ?_ _)); exact BK507.out⟩, ⟨by repeat (first | (with_reducible first | exact HB.out | apply la1 | apply ln1 | apply ld1 | refine ls1 ?_ GE507.out) | exact HB.out)⟩⟩
  case rest =>
    clear HC2
    try clear p2
    try clear c3
    try clear c4
    try clear c4b0
    try clear c4b1
    try clear c6
    try clear c6b0
    try clear c6b1
    try clear hcz5_0
    try clear hcz5_1
    try clear hcz5_2
    try clear hcz5_3
    try clear hcz5_4
    try clear hcz5_5
    try clear hcz7_0
    try clear hcz7_1
    try clear hcz7_2
    try clear hcz7_3
    try clear hcz7_4
    try clear hcz7_5
    try clear hcz8_0
    try clear hcz8_1
    try clear hcz8_2
    try clear hcz8_3
    try clear hcz8_4
    try clear hcz8_5
    try clear hfz5_0
    try clear hfz5_1
    try clear hfz5_2
    try clear hfz5_3
    try clear hfz5_4
    try clear hfz5_5
    try clear hfz7_0
    try clear hfz7_1
    try clear hfz7_2
    try clear hfz7_3
    try clear hfz7_4
    try clear hfz7_5
    try clear hfz8_0
    try clear hfz8_1
    try clear hfz8_2
    try clear hfz8_3
    try clear hfz8_4
    try clear hfz8_5
    obtain ⟨kq, x3_1, rfl, HA, HJ1, BK507, HB⟩ := hcut
    cases kq with
    | zero => exact absurd HA.out (by simp [clavierref03_bare.j0])
    | succ kj1 =>
      have H := HA.out
      clear HA
      simp only [clavierref03_bare.j0] at H
      have HC9 := Aside0.mk H
      clear H
      go_upto_region 2 with (fail)
      go_cut [28] (fun v28 wc => ∃ (kq : Nat) (x28_8 : Bool), v28 = .bool x28_8 ∧ Aside0 (clavierref03_bare.j1 kq x28_8 a0_0 a0_1 l0_2 a0_3 a0_4 a0_5 = some r) ∧ Aside0 (kq ≤ kj1) ∧ Aside0 (wc.heap[gb507]? = some (.cells #[.int .i64 a0_0, .int .u8 a0_1, (.slice A0_2 l0_2.length c0_2), .string a0_3, .int .u8 a0_4, .string a0_5] 37 (0, 0))) ∧ Aside0 (Below w.heap.size w wc))
      case first =>
        have H := HC9.out
        clear HC9
        by_cases c10 : x3_1 = true
        · subst c10
          have H1 : (if a0_1 = 0 then (clavierref03_bare.j1 kj1 (decide ((l0_2.length : Int) > 0)) a0_0 a0_1 l0_2 a0_3 a0_4 a0_5) else (clavierref03_bare.j1 kj1 true a0_0 a0_1 l0_2 a0_3 a0_4 a0_5)) = some r := by rw [if_pos rfl] at H; exact H
          clear H
          have H := H1
          clear H1
          by_cases c11 : a0_1 = 0
          · rw [if_pos c11] at H
            have c11b0 : (a0_1 == 0) = true := beq_iff_eq.mpr c11
            have c11b1 : (a0_1 != 0) = false := bne_eq_false_iff_eq.mpr c11
            clear c11
            (first | rw [c11b0] | (simp only [i64_w, i32_w]; rw [c11b0]) | skip)
            have H' := Aside0.mk H
            clear H
            have hcz12_0 : wc.cell? ⟨gb507, 0, none⟩ = some (.int .i64 a0_0) := (bc1 BK507.out 0).trans rfl
            have hcz12_1 : wc.cell? ⟨gb507, 1, none⟩ = some (.int .u8 a0_1) := (bc1 BK507.out 1).trans rfl
            have hcz12_2 : wc.cell? ⟨gb507, 2, none⟩ = some (.slice A0_2 l0_2.length c0_2) := (bc1 BK507.out 2).trans rfl
            have hcz12_3 : wc.cell? ⟨gb507, 3, none⟩ = some (.string a0_3) := (bc1 BK507.out 3).trans rfl
            have hcz12_4 : wc.cell? ⟨gb507, 4, none⟩ = some (.int .u8 a0_4) := (bc1 BK507.out 4).trans rfl
            have hcz12_5 : wc.cell? ⟨gb507, 5, none⟩ = some (.string a0_5) := (bc1 BK507.out 5).trans rfl
            have hfz12_0 := bz1 BK507.out 0
            have hfz12_1 := bz1 BK507.out 1
            have hfz12_2 := bz1 BK507.out 2
            have hfz12_3 := bz1 BK507.out 3
            have hfz12_4 := bz1 BK507.out 4
            have hfz12_5 := bz1 BK507.out 5
            go_wp2
            go_meet
            case rel => exact ⟨_, (decide ((l0_2.length : Int) > 0)), (by first | rfl | (simp; done) | (simp [*]; done)), H', ⟨by have := HJ1.out; first | omega | exact Nat.le_refl _⟩, ⟨by (with_reducible repeat (first | refine bn1 ?_ _ | refine bd1 ?_ | refine ba1 ?_ _)); exact BK507.out⟩, ⟨by repeat (first | (with_reducible first | exact HB.out | apply la1 | apply ln1 | apply ld1 | refine ls1 ?_ GE507.out) | exact HB.out)⟩⟩
          · rw [if_neg c11] at H
            have c11b0 : (a0_1 == 0) = false := beq_eq_false_iff_ne.mpr c11
            have c11b1 : (a0_1 != 0) = true := bne_iff_ne.mpr c11
            (first | rw [c11b0] | (simp only [i64_w, i32_w]; rw [c11b0]) | skip)
            have H' := Aside0.mk H
            clear H
            have hcz13_0 : wc.cell? ⟨gb507, 0, none⟩ = some (.int .i64 a0_0) := (bc1 BK507.out 0).trans rfl
            have hcz13_1 : wc.cell? ⟨gb507, 1, none⟩ = some (.int .u8 a0_1) := (bc1 BK507.out 1).trans rfl
            have hcz13_2 : wc.cell? ⟨gb507, 2, none⟩ = some (.slice A0_2 l0_2.length c0_2) := (bc1 BK507.out 2).trans rfl
            have hcz13_3 : wc.cell? ⟨gb507, 3, none⟩ = some (.string a0_3) := (bc1 BK507.out 3).trans rfl
            have hcz13_4 : wc.cell? ⟨gb507, 4, none⟩ = some (.int .u8 a0_4) := (bc1 BK507.out 4).trans rfl
            have hcz13_5 : wc.cell? ⟨gb507, 5, none⟩ = some (.string a0_5) := (bc1 BK507.out 5).trans rfl
            have hfz13_0 := bz1 BK507.out 0
            have hfz13_1 := bz1 BK507.out 1
            have hfz13_2 := bz1 BK507.out 2
            have hfz13_3 := bz1 BK507.out 3
            have hfz13_4 := bz1 BK507.out 4
            have hfz13_5 := bz1 BK507.out 5
            go_wp2
            go_meet
            case rel => exact ⟨_, (true), (by first | rfl | (simp; done) | (simp [*]; done)), H', ⟨by have := HJ1.out; first | omega | exact Nat.le_refl _⟩, ⟨by (with_reducible repeat (first | refine bn1 ?_ _ | refine bd1 ?_ | refine ba1 ?_ _)); exact BK507.out⟩, ⟨by repeat (first | (with_reducible first | exact HB.out | apply la1 | apply ln1 | apply ld1 | refine ls1 ?_ GE507.out) | exact HB.out)⟩⟩
        · replace c10 := Bool.eq_false_iff.mpr c10
          subst c10
          have H1 : (clavierref03_bare.j1 kj1 false a0_0 a0_1 l0_2 a0_3 a0_4 a0_5) = some r := by rw [if_neg (show ¬ (false = true) by decide)] at H; exact H
          clear H
          have H := H1
          clear H1
          have H' := Aside0.mk H
          clear H
          go_wp2
          go_meet
          case rel => exact ⟨_, (false), (by first | rfl | (simp; done) | (simp [*]; done)), H', ⟨by have := HJ1.out; first | omega | exact Nat.le_refl _⟩, ⟨by (with_reducible repeat (first | refine bn1 ?_ _ | refine bd1 ?_ | refine ba1 ?_ _)); exact BK507.out⟩, ⟨by repeat (first | (with_reducible first | exact HB.out | apply la1 | apply ln1 | apply ld1 | refine ls1 ?_ GE507.out) | exact HB.out)⟩⟩
      case rest =>
        clear HC9
        try clear c1
        try clear p2
        try clear c3
        try clear c4
        try clear c4b0
        try clear c4b1
        try clear c6
        try clear c6b0
        try clear c6b1
        try clear c10
        try clear c11
        try clear c11b0
        try clear c11b1
        try clear hcz12_0
        try clear hcz12_1
        try clear hcz12_2
        try clear hcz12_3
        try clear hcz12_4
        try clear hcz12_5
        try clear hcz13_0
        try clear hcz13_1
        try clear hcz13_2
        try clear hcz13_3
        try clear hcz13_4
        try clear hcz13_5
        try clear hcz5_0
        try clear hcz5_1
        try clear hcz5_2
        try clear hcz5_3
        try clear hcz5_4
        try clear hcz5_5
        try clear hcz7_0
        try clear hcz7_1
        try clear hcz7_2
        try clear hcz7_3
        try clear hcz7_4
        try clear hcz7_5
        try clear hcz8_0
        try clear hcz8_1
        try clear hcz8_2
        try clear hcz8_3
        try clear hcz8_4
        try clear hcz8_5
        try clear hfz12_0
        try clear hfz12_1
        try clear hfz12_2
        try clear hfz12_3
        try clear hfz12_4
        try clear hfz12_5
        try clear hfz13_0
        try clear hfz13_1
        try clear hfz13_2
        try clear hfz13_3
        try clear hfz13_4
        try clear hfz13_5
        try clear hfz5_0
        try clear hfz5_1
        try clear hfz5_2
        try clear hfz5_3
        try clear hfz5_4
        try clear hfz5_5
        try clear hfz7_0
        try clear hfz7_1
        try clear hfz7_2
        try clear hfz7_3
        try clear hfz7_4
        try clear hfz7_5
        try clear hfz8_0
        try clear hfz8_1
        try clear hfz8_2
        try clear hfz8_3
        try clear hfz8_4
        try clear hfz8_5
        try clear p2
        obtain ⟨kq, x28_8, rfl, HA, HJ8, BK507, HB⟩ := hcut
        cases kq with
        | zero => exact absurd HA.out (by simp [clavierref03_bare.j1])
        | succ kj8 =>
          have H := HA.out
          clear HA
          simp only [clavierref03_bare.j1] at H
          by_cases c14 : x28_8 = true
          · subst c14
            have H1 : (some false) = some r := by rw [if_pos rfl] at H; exact H
            clear H
            have H := H1
            clear H1
            obtain rfl := Option.some.inj H
            go_wp2
            go_ret
            exact ⟨by first | rfl | (simp [errW_none, errW_some] <;> rfl) | (simp [*, errW_none, errW_some] <;> rfl), by repeat (first | (with_reducible first | exact HB.out | apply la1 | apply ln1 | apply ld1 | refine ls1 ?_ GE507.out) | exact HB.out)⟩
          · replace c14 := Bool.eq_false_iff.mpr c14
            subst c14
            have H1 : (if a0_0 = 2 then (if a0_3.toList = ([] : List UInt8) then (if a0_5.toList = ([] : List UInt8) then (some true) else (if a0_0 = 3 then (some true) else (some (a0_0 == 4)))) else (some false)) else (if a0_0 = 4 then (if a0_3.toList = ([] : List UInt8) then (if a0_5.toList = ([] : List UInt8) then (some true) else (if a0_0 = 3 then (some true) else (some (a0_0 == 4)))) else (some false)) else (if a0_5.toList = ([] : List UInt8) then (some true) else (if a0_0 = 3 then (some true) else (some (a0_0 == 4)))))) = some r := by rw [if_neg (show ¬ (false = true) by decide)] at H; exact H
            clear H
            have H := H1
            clear H1
            by_cases c15 : a0_0 = 2
            · rw [if_pos c15] at H
              have c15b0 : (a0_0 == 2) = true := beq_iff_eq.mpr c15
              have c15b1 : (a0_0 != 2) = false := bne_eq_false_iff_eq.mpr c15
              clear c15
              by_cases c16 : a0_3.toList = ([] : List UInt8)
              · rw [if_pos c16] at H
                have c16b0 : (a0_3.toList == ([] : List UInt8)) = true := beq_iff_eq.mpr c16
                have c16b1 : (a0_3.toList != ([] : List UInt8)) = false := bne_eq_false_iff_eq.mpr c16
                clear c16
                by_cases c17 : a0_5.toList = ([] : List UInt8)
                · rw [if_pos c17] at H
                  have c17b0 : (a0_5.toList == ([] : List UInt8)) = true := beq_iff_eq.mpr c17
                  have c17b1 : (a0_5.toList != ([] : List UInt8)) = false := bne_eq_false_iff_eq.mpr c17
                  clear c17
                  obtain rfl := Option.some.inj H
                  have hcz18_0 : wc.cell? ⟨gb507, 0, none⟩ = some (.int .i64 a0_0) := (bc1 BK507.out 0).trans rfl
                  have hcz18_1 : wc.cell? ⟨gb507, 1, none⟩ = some (.int .u8 a0_1) := (bc1 BK507.out 1).trans rfl
                  have hcz18_2 : wc.cell? ⟨gb507, 2, none⟩ = some (.slice A0_2 l0_2.length c0_2) := (bc1 BK507.out 2).trans rfl
                  have hcz18_3 : wc.cell? ⟨gb507, 3, none⟩ = some (.string a0_3) := (bc1 BK507.out 3).trans rfl
                  have hcz18_4 : wc.cell? ⟨gb507, 4, none⟩ = some (.int .u8 a0_4) := (bc1 BK507.out 4).trans rfl
                  have hcz18_5 : wc.cell? ⟨gb507, 5, none⟩ = some (.string a0_5) := (bc1 BK507.out 5).trans rfl
                  have hfz18_0 := bz1 BK507.out 0
                  have hfz18_1 := bz1 BK507.out 1
                  have hfz18_2 := bz1 BK507.out 2
                  have hfz18_3 := bz1 BK507.out 3
                  have hfz18_4 := bz1 BK507.out 4
                  have hfz18_5 := bz1 BK507.out 5
                  go_wp2
                  go_ret
                  exact ⟨by first | rfl | (simp [errW_none, errW_some] <;> rfl) | (simp [*, errW_none, errW_some] <;> rfl), by repeat (first | (with_reducible first | exact HB.out | apply la1 | apply ln1 | apply ld1 | refine ls1 ?_ GE507.out) | exact HB.out)⟩
                · rw [if_neg c17] at H
                  have c17b0 : (a0_5.toList == ([] : List UInt8)) = false := beq_eq_false_iff_ne.mpr c17
                  have c17b1 : (a0_5.toList != ([] : List UInt8)) = true := bne_iff_ne.mpr c17
                  by_cases c19 : a0_0 = 3
                  · rw [if_pos c19] at H
                    have c19b0 : (a0_0 == 3) = true := beq_iff_eq.mpr c19
                    have c19b1 : (a0_0 != 3) = false := bne_eq_false_iff_eq.mpr c19
                    clear c19
                    obtain rfl := Option.some.inj H
                    have hcz20_0 : wc.cell? ⟨gb507, 0, none⟩ = some (.int .i64 a0_0) := (bc1 BK507.out 0).trans rfl
                    have hcz20_1 : wc.cell? ⟨gb507, 1, none⟩ = some (.int .u8 a0_1) := (bc1 BK507.out 1).trans rfl
                    have hcz20_2 : wc.cell? ⟨gb507, 2, none⟩ = some (.slice A0_2 l0_2.length c0_2) := (bc1 BK507.out 2).trans rfl
                    have hcz20_3 : wc.cell? ⟨gb507, 3, none⟩ = some (.string a0_3) := (bc1 BK507.out 3).trans rfl
                    have hcz20_4 : wc.cell? ⟨gb507, 4, none⟩ = some (.int .u8 a0_4) := (bc1 BK507.out 4).trans rfl
                    have hcz20_5 : wc.cell? ⟨gb507, 5, none⟩ = some (.string a0_5) := (bc1 BK507.out 5).trans rfl
                    have hfz20_0 := bz1 BK507.out 0
                    have hfz20_1 := bz1 BK507.out 1
                    have hfz20_2 := bz1 BK507.out 2
                    have hfz20_3 := bz1 BK507.out 3
                    have hfz20_4 := bz1 BK507.out 4
                    have hfz20_5 := bz1 BK507.out 5
                    go_wp2
                    go_ret
                    exact ⟨by first | rfl | (simp [errW_none, errW_some] <;> rfl) | (simp [*, errW_none, errW_some] <;> rfl), by repeat (first | (with_reducible first | exact HB.out | apply la1 | apply ln1 | apply ld1 | refine ls1 ?_ GE507.out) | exact HB.out)⟩
                  · rw [if_neg c19] at H
                    have c19b0 : (a0_0 == 3) = false := beq_eq_false_iff_ne.mpr c19
                    have c19b1 : (a0_0 != 3) = true := bne_iff_ne.mpr c19
                    obtain rfl := Option.some.inj H
                    have hcz21_0 : wc.cell? ⟨gb507, 0, none⟩ = some (.int .i64 a0_0) := (bc1 BK507.out 0).trans rfl
                    have hcz21_1 : wc.cell? ⟨gb507, 1, none⟩ = some (.int .u8 a0_1) := (bc1 BK507.out 1).trans rfl
                    have hcz21_2 : wc.cell? ⟨gb507, 2, none⟩ = some (.slice A0_2 l0_2.length c0_2) := (bc1 BK507.out 2).trans rfl
                    have hcz21_3 : wc.cell? ⟨gb507, 3, none⟩ = some (.string a0_3) := (bc1 BK507.out 3).trans rfl
                    have hcz21_4 : wc.cell? ⟨gb507, 4, none⟩ = some (.int .u8 a0_4) := (bc1 BK507.out 4).trans rfl
                    have hcz21_5 : wc.cell? ⟨gb507, 5, none⟩ = some (.string a0_5) := (bc1 BK507.out 5).trans rfl
                    have hfz21_0 := bz1 BK507.out 0
                    have hfz21_1 := bz1 BK507.out 1
                    have hfz21_2 := bz1 BK507.out 2
                    have hfz21_3 := bz1 BK507.out 3
                    have hfz21_4 := bz1 BK507.out 4
                    have hfz21_5 := bz1 BK507.out 5
                    go_wp2
                    go_ret
                    exact ⟨by first | rfl | (simp [errW_none, errW_some] <;> rfl) | (simp [*, errW_none, errW_some] <;> rfl), by repeat (first | (with_reducible first | exact HB.out | apply la1 | apply ln1 | apply ld1 | refine ls1 ?_ GE507.out) | exact HB.out)⟩
              · rw [if_neg c16] at H
                have c16b0 : (a0_3.toList == ([] : List UInt8)) = false := beq_eq_false_iff_ne.mpr c16
                have c16b1 : (a0_3.toList != ([] : List UInt8)) = true := bne_iff_ne.mpr c16
                obtain rfl := Option.some.inj H
                have hcz22_0 : wc.cell? ⟨gb507, 0, none⟩ = some (.int .i64 a0_0) := (bc1 BK507.out 0).trans rfl
                have hcz22_1 : wc.cell? ⟨gb507, 1, none⟩ = some (.int .u8 a0_1) := (bc1 BK507.out 1).trans rfl
                have hcz22_2 : wc.cell? ⟨gb507, 2, none⟩ = some (.slice A0_2 l0_2.length c0_2) := (bc1 BK507.out 2).trans rfl
                have hcz22_3 : wc.cell? ⟨gb507, 3, none⟩ = some (.string a0_3) := (bc1 BK507.out 3).trans rfl
                have hcz22_4 : wc.cell? ⟨gb507, 4, none⟩ = some (.int .u8 a0_4) := (bc1 BK507.out 4).trans rfl
                have hcz22_5 : wc.cell? ⟨gb507, 5, none⟩ = some (.string a0_5) := (bc1 BK507.out 5).trans rfl
                have hfz22_0 := bz1 BK507.out 0
                have hfz22_1 := bz1 BK507.out 1
                have hfz22_2 := bz1 BK507.out 2
                have hfz22_3 := bz1 BK507.out 3
                have hfz22_4 := bz1 BK507.out 4
                have hfz22_5 := bz1 BK507.out 5
                go_wp2
                go_ret
                exact ⟨by first | rfl | (simp [errW_none, errW_some] <;> rfl) | (simp [*, errW_none, errW_some] <;> rfl), by repeat (first | (with_reducible first | exact HB.out | apply la1 | apply ln1 | apply ld1 | refine ls1 ?_ GE507.out) | exact HB.out)⟩
            · rw [if_neg c15] at H
              have c15b0 : (a0_0 == 2) = false := beq_eq_false_iff_ne.mpr c15
              have c15b1 : (a0_0 != 2) = true := bne_iff_ne.mpr c15
              by_cases c23 : a0_0 = 4
              · rw [if_pos c23] at H
                have c23b0 : (a0_0 == 4) = true := beq_iff_eq.mpr c23
                have c23b1 : (a0_0 != 4) = false := bne_eq_false_iff_eq.mpr c23
                clear c23
                by_cases c24 : a0_3.toList = ([] : List UInt8)
                · rw [if_pos c24] at H
                  have c24b0 : (a0_3.toList == ([] : List UInt8)) = true := beq_iff_eq.mpr c24
                  have c24b1 : (a0_3.toList != ([] : List UInt8)) = false := bne_eq_false_iff_eq.mpr c24
                  clear c24
                  by_cases c25 : a0_5.toList = ([] : List UInt8)
                  · rw [if_pos c25] at H
                    have c25b0 : (a0_5.toList == ([] : List UInt8)) = true := beq_iff_eq.mpr c25
                    have c25b1 : (a0_5.toList != ([] : List UInt8)) = false := bne_eq_false_iff_eq.mpr c25
                    clear c25
                    obtain rfl := Option.some.inj H
                    have hcz26_0 : wc.cell? ⟨gb507, 0, none⟩ = some (.int .i64 a0_0) := (bc1 BK507.out 0).trans rfl
                    have hcz26_1 : wc.cell? ⟨gb507, 1, none⟩ = some (.int .u8 a0_1) := (bc1 BK507.out 1).trans rfl
                    have hcz26_2 : wc.cell? ⟨gb507, 2, none⟩ = some (.slice A0_2 l0_2.length c0_2) := (bc1 BK507.out 2).trans rfl
                    have hcz26_3 : wc.cell? ⟨gb507, 3, none⟩ = some (.string a0_3) := (bc1 BK507.out 3).trans rfl
                    have hcz26_4 : wc.cell? ⟨gb507, 4, none⟩ = some (.int .u8 a0_4) := (bc1 BK507.out 4).trans rfl
                    have hcz26_5 : wc.cell? ⟨gb507, 5, none⟩ = some (.string a0_5) := (bc1 BK507.out 5).trans rfl
                    have hfz26_0 := bz1 BK507.out 0
                    have hfz26_1 := bz1 BK507.out 1
                    have hfz26_2 := bz1 BK507.out 2
                    have hfz26_3 := bz1 BK507.out 3
                    have hfz26_4 := bz1 BK507.out 4
                    have hfz26_5 := bz1 BK507.out 5
                    go_wp2
                    go_ret
                    exact ⟨by first | rfl | (simp [errW_none, errW_some] <;> rfl) | (simp [*, errW_none, errW_some] <;> rfl), by repeat (first | (with_reducible first | exact HB.out | apply la1 | apply ln1 | apply ld1 | refine ls1 ?_ GE507.out) | exact HB.out)⟩
                  · rw [if_neg c25] at H
                    have c25b0 : (a0_5.toList == ([] : List UInt8)) = false := beq_eq_false_iff_ne.mpr c25
                    have c25b1 : (a0_5.toList != ([] : List UInt8)) = true := bne_iff_ne.mpr c25
                    by_cases c27 : a0_0 = 3
                    · rw [if_pos c27] at H
                      have c27b0 : (a0_0 == 3) = true := beq_iff_eq.mpr c27
                      have c27b1 : (a0_0 != 3) = false := bne_eq_false_iff_eq.mpr c27
                      clear c27
                      obtain rfl := Option.some.inj H
                      have hcz28_0 : wc.cell? ⟨gb507, 0, none⟩ = some (.int .i64 a0_0) := (bc1 BK507.out 0).trans rfl
                      have hcz28_1 : wc.cell? ⟨gb507, 1, none⟩ = some (.int .u8 a0_1) := (bc1 BK507.out 1).trans rfl
                      have hcz28_2 : wc.cell? ⟨gb507, 2, none⟩ = some (.slice A0_2 l0_2.length c0_2) := (bc1 BK507.out 2).trans rfl
                      have hcz28_3 : wc.cell? ⟨gb507, 3, none⟩ = some (.string a0_3) := (bc1 BK507.out 3).trans rfl
                      have hcz28_4 : wc.cell? ⟨gb507, 4, none⟩ = some (.int .u8 a0_4) := (bc1 BK507.out 4).trans rfl
                      have hcz28_5 : wc.cell? ⟨gb507, 5, none⟩ = some (.string a0_5) := (bc1 BK507.out 5).trans rfl
                      have hfz28_0 := bz1 BK507.out 0
                      have hfz28_1 := bz1 BK507.out 1
                      have hfz28_2 := bz1 BK507.out 2
                      have hfz28_3 := bz1 BK507.out 3
                      have hfz28_4 := bz1 BK507.out 4
                      have hfz28_5 := bz1 BK507.out 5
                      go_wp2
                      go_ret
                      exact ⟨by first | rfl | (simp [errW_none, errW_some] <;> rfl) | (simp [*, errW_none, errW_some] <;> rfl), by repeat (first | (with_reducible first | exact HB.out | apply la1 | apply ln1 | apply ld1 | refine ls1 ?_ GE507.out) | exact HB.out)⟩
                    · rw [if_neg c27] at H
                      have c27b0 : (a0_0 == 3) = false := beq_eq_false_iff_ne.mpr c27
                      have c27b1 : (a0_0 != 3) = true := bne_iff_ne.mpr c27
                      obtain rfl := Option.some.inj H
                      have hcz29_0 : wc.cell? ⟨gb507, 0, none⟩ = some (.int .i64 a0_0) := (bc1 BK507.out 0).trans rfl
                      have hcz29_1 : wc.cell? ⟨gb507, 1, none⟩ = some (.int .u8 a0_1) := (bc1 BK507.out 1).trans rfl
                      have hcz29_2 : wc.cell? ⟨gb507, 2, none⟩ = some (.slice A0_2 l0_2.length c0_2) := (bc1 BK507.out 2).trans rfl
                      have hcz29_3 : wc.cell? ⟨gb507, 3, none⟩ = some (.string a0_3) := (bc1 BK507.out 3).trans rfl
                      have hcz29_4 : wc.cell? ⟨gb507, 4, none⟩ = some (.int .u8 a0_4) := (bc1 BK507.out 4).trans rfl
                      have hcz29_5 : wc.cell? ⟨gb507, 5, none⟩ = some (.string a0_5) := (bc1 BK507.out 5).trans rfl
                      have hfz29_0 := bz1 BK507.out 0
                      have hfz29_1 := bz1 BK507.out 1
                      have hfz29_2 := bz1 BK507.out 2
                      have hfz29_3 := bz1 BK507.out 3
                      have hfz29_4 := bz1 BK507.out 4
                      have hfz29_5 := bz1 BK507.out 5
                      go_wp2
                      go_ret
                      exact ⟨by first | rfl | (simp [errW_none, errW_some] <;> rfl) | (simp [*, errW_none, errW_some] <;> rfl), by repeat (first | (with_reducible first | exact HB.out | apply la1 | apply ln1 | apply ld1 | refine ls1 ?_ GE507.out) | exact HB.out)⟩
                · rw [if_neg c24] at H
                  have c24b0 : (a0_3.toList == ([] : List UInt8)) = false := beq_eq_false_iff_ne.mpr c24
                  have c24b1 : (a0_3.toList != ([] : List UInt8)) = true := bne_iff_ne.mpr c24
                  obtain rfl := Option.some.inj H
                  have hcz30_0 : wc.cell? ⟨gb507, 0, none⟩ = some (.int .i64 a0_0) := (bc1 BK507.out 0).trans rfl
                  have hcz30_1 : wc.cell? ⟨gb507, 1, none⟩ = some (.int .u8 a0_1) := (bc1 BK507.out 1).trans rfl
                  have hcz30_2 : wc.cell? ⟨gb507, 2, none⟩ = some (.slice A0_2 l0_2.length c0_2) := (bc1 BK507.out 2).trans rfl
                  have hcz30_3 : wc.cell? ⟨gb507, 3, none⟩ = some (.string a0_3) := (bc1 BK507.out 3).trans rfl
                  have hcz30_4 : wc.cell? ⟨gb507, 4, none⟩ = some (.int .u8 a0_4) := (bc1 BK507.out 4).trans rfl
                  have hcz30_5 : wc.cell? ⟨gb507, 5, none⟩ = some (.string a0_5) := (bc1 BK507.out 5).trans rfl
                  have hfz30_0 := bz1 BK507.out 0
                  have hfz30_1 := bz1 BK507.out 1
                  have hfz30_2 := bz1 BK507.out 2
                  have hfz30_3 := bz1 BK507.out 3
                  have hfz30_4 := bz1 BK507.out 4
                  have hfz30_5 := bz1 BK507.out 5
                  go_wp2
                  go_ret
                  exact ⟨by first | rfl | (simp [errW_none, errW_some] <;> rfl) | (simp [*, errW_none, errW_some] <;> rfl), by repeat (first | (with_reducible first | exact HB.out | apply la1 | apply ln1 | apply ld1 | refine ls1 ?_ GE507.out) | exact HB.out)⟩
              · rw [if_neg c23] at H
                have c23b0 : (a0_0 == 4) = false := beq_eq_false_iff_ne.mpr c23
                have c23b1 : (a0_0 != 4) = true := bne_iff_ne.mpr c23
                by_cases c31 : a0_5.toList = ([] : List UInt8)
                · rw [if_pos c31] at H
                  have c31b0 : (a0_5.toList == ([] : List UInt8)) = true := beq_iff_eq.mpr c31
                  have c31b1 : (a0_5.toList != ([] : List UInt8)) = false := bne_eq_false_iff_eq.mpr c31
                  clear c31
                  obtain rfl := Option.some.inj H
                  have hcz32_0 : wc.cell? ⟨gb507, 0, none⟩ = some (.int .i64 a0_0) := (bc1 BK507.out 0).trans rfl
                  have hcz32_1 : wc.cell? ⟨gb507, 1, none⟩ = some (.int .u8 a0_1) := (bc1 BK507.out 1).trans rfl
                  have hcz32_2 : wc.cell? ⟨gb507, 2, none⟩ = some (.slice A0_2 l0_2.length c0_2) := (bc1 BK507.out 2).trans rfl
                  have hcz32_3 : wc.cell? ⟨gb507, 3, none⟩ = some (.string a0_3) := (bc1 BK507.out 3).trans rfl
                  have hcz32_4 : wc.cell? ⟨gb507, 4, none⟩ = some (.int .u8 a0_4) := (bc1 BK507.out 4).trans rfl
                  have hcz32_5 : wc.cell? ⟨gb507, 5, none⟩ = some (.string a0_5) := (bc1 BK507.out 5).trans rfl
                  have hfz32_0 := bz1 BK507.out 0
                  have hfz32_1 := bz1 BK507.out 1
                  have hfz32_2 := bz1 BK507.out 2
                  have hfz32_3 := bz1 BK507.out 3
                  have hfz32_4 := bz1 BK507.out 4
                  have hfz32_5 := bz1 BK507.out 5
                  go_wp2
                  go_ret
                  exact ⟨by first | rfl | (simp [errW_none, errW_some] <;> rfl) | (simp [*, errW_none, errW_some] <;> rfl), by repeat (first | (with_reducible first | exact HB.out | apply la1 | apply ln1 | apply ld1 | refine ls1 ?_ GE507.out) | exact HB.out)⟩
                · rw [if_neg c31] at H
                  have c31b0 : (a0_5.toList == ([] : List UInt8)) = false := beq_eq_false_iff_ne.mpr c31
                  have c31b1 : (a0_5.toList != ([] : List UInt8)) = true := bne_iff_ne.mpr c31
                  by_cases c33 : a0_0 = 3
                  · rw [if_pos c33] at H
                    have c33b0 : (a0_0 == 3) = true := beq_iff_eq.mpr c33
                    have c33b1 : (a0_0 != 3) = false := bne_eq_false_iff_eq.mpr c33
                    clear c33
                    obtain rfl := Option.some.inj H
                    have hcz34_0 : wc.cell? ⟨gb507, 0, none⟩ = some (.int .i64 a0_0) := (bc1 BK507.out 0).trans rfl
                    have hcz34_1 : wc.cell? ⟨gb507, 1, none⟩ = some (.int .u8 a0_1) := (bc1 BK507.out 1).trans rfl
                    have hcz34_2 : wc.cell? ⟨gb507, 2, none⟩ = some (.slice A0_2 l0_2.length c0_2) := (bc1 BK507.out 2).trans rfl
                    have hcz34_3 : wc.cell? ⟨gb507, 3, none⟩ = some (.string a0_3) := (bc1 BK507.out 3).trans rfl
                    have hcz34_4 : wc.cell? ⟨gb507, 4, none⟩ = some (.int .u8 a0_4) := (bc1 BK507.out 4).trans rfl
                    have hcz34_5 : wc.cell? ⟨gb507, 5, none⟩ = some (.string a0_5) := (bc1 BK507.out 5).trans rfl
                    have hfz34_0 := bz1 BK507.out 0
                    have hfz34_1 := bz1 BK507.out 1
                    have hfz34_2 := bz1 BK507.out 2
                    have hfz34_3 := bz1 BK507.out 3
                    have hfz34_4 := bz1 BK507.out 4
                    have hfz34_5 := bz1 BK507.out 5
                    go_wp2
                    go_ret
                    exact ⟨by first | rfl | (simp [errW_none, errW_some] <;> rfl) | (simp [*, errW_none, errW_some] <;> rfl), by repeat (first | (with_reducible first | exact HB.out | apply la1 | apply ln1 | apply ld1 | refine ls1 ?_ GE507.out) | exact HB.out)⟩
                  · rw [if_neg c33] at H
                    have c33b0 : (a0_0 == 3) = false := beq_eq_false_iff_ne.mpr c33
                    have c33b1 : (a0_0 != 3) = true := bne_iff_ne.mpr c33
                    obtain rfl := Option.some.inj H
                    have hcz35_0 : wc.cell? ⟨gb507, 0, none⟩ = some (.int .i64 a0_0) := (bc1 BK507.out 0).trans rfl
                    have hcz35_1 : wc.cell? ⟨gb507, 1, none⟩ = some (.int .u8 a0_1) := (bc1 BK507.out 1).trans rfl
                    have hcz35_2 : wc.cell? ⟨gb507, 2, none⟩ = some (.slice A0_2 l0_2.length c0_2) := (bc1 BK507.out 2).trans rfl
                    have hcz35_3 : wc.cell? ⟨gb507, 3, none⟩ = some (.string a0_3) := (bc1 BK507.out 3).trans rfl
                    have hcz35_4 : wc.cell? ⟨gb507, 4, none⟩ = some (.int .u8 a0_4) := (bc1 BK507.out 4).trans rfl
                    have hcz35_5 : wc.cell? ⟨gb507, 5, none⟩ = some (.string a0_5) := (bc1 BK507.out 5).trans rfl
                    have hfz35_0 := bz1 BK507.out 0
                    have hfz35_1 := bz1 BK507.out 1
                    have hfz35_2 := bz1 BK507.out 2
                    have hfz35_3 := bz1 BK507.out 3
                    have hfz35_4 := bz1 BK507.out 4
                    have hfz35_5 := bz1 BK507.out 5
                    go_wp2
                    go_ret
                    exact ⟨by first | rfl | (simp [errW_none, errW_some] <;> rfl) | (simp [*, errW_none, errW_some] <;> rfl), by repeat (first | (with_reducible first | exact HB.out | apply la1 | apply ln1 | apply ld1 | refine ls1 ?_ GE507.out) | exact HB.out)⟩
end Go.Proofs.YtbaigfoioiklkaaDoor.G
end
