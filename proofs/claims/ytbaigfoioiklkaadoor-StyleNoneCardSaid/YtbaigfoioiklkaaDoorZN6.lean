/- N: texts run together by shake.py: PuSd PuSf. -/
import Derived.ArgAppend
import Derived.Below
import Derived.BigQuiet
import Derived.ChangeOld
import Derived.ChangeSlices
import Derived.Deep.AppendLies
import Derived.Deep.CutBlock
import Derived.Deep.DeepCutAuto
import Derived.Deep.Draws
import Derived.Deep.LoopGhost
import Derived.Deep.Matrix
import Derived.Deep.OwnRows
import Derived.Deep.Quiet
import Derived.Deep.QuietTactic
import Derived.Deep.RegionHeld3
import Derived.KernelRfl
import Derived.Laws.AppendOwn
import Derived.Laws.AppendOwnNone
import Derived.Laws.BitsLemmas
import Derived.Laws.BytesArg
import Derived.Laws.Concat
import Derived.Laws.CopyRow
import Derived.Laws.IdiomCopy
import Derived.Laws.IdiomStrings
import Derived.Laws.MakeOwn
import Derived.Laws.OwnMore
import Derived.Laws.Rows
import Derived.Laws.Slices
import Derived.Laws.StructEq
import Derived.Lib.AppendIntMem
import Derived.Lib.AppendStr
import Derived.Lib.ConvBytes
import Derived.Lib.Hide
import Derived.Lib.ItoaLen
import Derived.Lib.ItoaNum
import Derived.Lib.Join
import Derived.Lib.LaidTab
import Derived.Lib.Strings
import Derived.MapKept
import Derived.Maps.AppendAt
import Derived.OpenShut
import Derived.Orders
import Derived.OrdersHeld
import Derived.Outline
import Derived.OwnWalk
import Derived.ProofKit
import Derived.RowKit
import Derived.RowKit3
import Derived.Shelf.LaysM
import Derived.Shelf.Strconv.Itoa0
import Derived.Shelf.Strconv.Itoa1
import Derived.Shelf.Strconv.Itoa2
import Derived.Shelf.Strconv.Itoa3
import Derived.Shelf.Strings.Builder1
import Derived.Shelf.Strings.Builder2
import Derived.Shelf.Strings.Builder2Cap
import Derived.Shelf.Strings.BuilderCap
import Derived.Shelf.Strings.BuilderF
import Derived.Shelf.Strings.BuilderK
import Derived.Shelf.Strings.OnBuilder
import Derived.ShutString
import Derived.SizedLaws
import Derived.Still
import Derived.Tactics
import Derived.Test.YtbaigfoioiklkaaDoorProg
import Derived.WalkKit
import Derived.WalkLawsBesides
import Derived.WalkSpells
import Derived.WideLaws
import Derived.Test.YtbaigfoioiklkaaDoorZN1
import Derived.Test.YtbaigfoioiklkaaDoorZN2
import Derived.Test.YtbaigfoioiklkaaDoorZN3
import Derived.Test.YtbaigfoioiklkaaDoorZN4
import Derived.Test.YtbaigfoioiklkaaDoorZN5
section
namespace Go.Proofs.YtbaigfoioiklkaaDoor.G
set_option linter.unusedVariables false
set_option linter.unusedSimpArgs false
open Go.RowKit Kit Go.Proofs.YtbaigfoioiklkaaDoorW.PrintWords
def paramsV (s : St) : List (List Int) :=
  if mayL s.2.2.2.2.2.2.2.1 s.2.2.2.2.2.2.2.2.1 s.2.2.2.2.2.2.2.2.2 then paramsL s.1 s.2.1 s.2.2.1 s.2.2.2.1 s.2.2.2.2.1 s.2.2.2.2.2.1 s.2.2.2.2.2.2.1 s.2.2.2.2.2.2.2.1 s.2.2.2.2.2.2.2.2.1 s.2.2.2.2.2.2.2.2.2 else []
theorem Params_is (b0 b1 b2 b3 b4 b5 b6 : Bool) (u f b : Int) (hf : -9223372036854775808 ≤ f) (hb : -9223372036854775808 ≤ b) : style_Params.f b0 b1 b2 b3 b4 b5 b6 u f b = some (paramsV (b0, b1, b2, b3, b4, b5, b6, u, f, b)) := by
  unfold style_Params.f paramsV
  rw [may_is]
  cases h : mayL u f b with
  | true => rw [if_pos rfl, if_pos ⟨hf, hb⟩, if_pos rfl]
  | false => rw [if_neg (by decide), if_pos rfl, if_neg (by simp [h])]
theorem mark_len (c : Bool) (n : Int) : (markL c n).length ≤ 1 := by cases c <;> simp [markL]
theorem tint_len (n base : Int) : (tintL n base).length ≤ 6 := by
  unfold tintL
  repeat' split
  all_goals simp
theorem mem_mark {c : Bool} {n : Int} {r : List Int} (h : r ∈ markL c n) : r = [n] := by cases c <;> simp [markL] at h; exact h
theorem paramsV_rows (s : St) : ∀ r ∈ paramsV s, r.length ≤ 6 := by
  intro r hr
  unfold paramsV at hr
  split at hr
  · simp only [paramsL, List.mem_append] at hr
    rcases hr with (((((((((h | h) | h) | h) | h) | h) | h) | h) | h) | h) | h
    · simp at h; subst h; simp
    · rw [mem_mark h]; simp
    · rw [mem_mark h]; simp
    · rw [mem_mark h]; simp
    · unfold underL at h; repeat' split at h
      all_goals simp at h; try (subst h; simp)
    · rw [mem_mark h]; simp
    · rw [mem_mark h]; simp
    · rw [mem_mark h]; simp
    · rw [mem_mark h]; simp
    · unfold colourL at h; split at h <;> simp at h; subst h; exact tint_len _ _
    · unfold colourL at h; split at h <;> simp at h; subst h; exact tint_len _ _
  · cases hr
theorem paramsV_len (s : St) : (paramsV s).length ≤ 11 := by
  unfold paramsV
  split
  · have hu : (underL s.2.2.2.2.2.2.2.1).length ≤ 1 := by unfold underL; repeat' split
                                                          all_goals simp
    have hc : ∀ n b, (colourL n b).length ≤ 1 := fun n b => by unfold colourL; split <;> simp
    have h1 := hc s.2.2.2.2.2.2.2.2.1 30
    have h2 := hc s.2.2.2.2.2.2.2.2.2 40
    have m0 := mark_len s.1 1
    have m1 := mark_len s.2.1 2
    have m2 := mark_len s.2.2.1 3
    have m3 := mark_len s.2.2.2.1 5
    have m4 := mark_len s.2.2.2.2.1 7
    have m5 := mark_len s.2.2.2.2.2.1 8
    have m6 := mark_len s.2.2.2.2.2.2.1 9
    simp only [paramsL, List.length_append, List.length_singleton]
    omega
  · simp
theorem paramsV_small (s : St) : Small (paramsV s) := ⟨by have := paramsV_len s; omega, fun r hr => by have := paramsV_rows s r hr; omega⟩
theorem paramsV_in (s : St) : AllI (paramsV s) := by
  intro r hr z hz
  unfold paramsV at hr
  split at hr
  · rename_i hm
    simp only [mayL, colL, Bool.and_eq_true, decide_eq_true_eq] at hm
    have ht : ∀ n base : Int, -1 ≤ n → n < 16777472 → 0 ≤ base → base ≤ 100 → ∀ z ∈ tintL n base, -9223372036854775808 ≤ z ∧ z ≤ 9223372036854775807 := by
      intro n base h0 h1 h2 h3 z hz
      unfold tintL at hz
      repeat' split at hz
      all_goals simp at hz
      all_goals omega
    simp only [paramsL, List.mem_append] at hr
    rcases hr with (((((((((h | h) | h) | h) | h) | h) | h) | h) | h) | h) | h
    · simp at h; subst h; simp at hz; omega
    · rw [mem_mark h] at hz; simp at hz; omega
    · rw [mem_mark h] at hz; simp at hz; omega
    · rw [mem_mark h] at hz; simp at hz; omega
    · unfold underL at h
      repeat' split at h
      all_goals simp at h
      all_goals (subst h; simp at hz; omega)
    · rw [mem_mark h] at hz; simp at hz; omega
    · rw [mem_mark h] at hz; simp at hz; omega
    · rw [mem_mark h] at hz; simp at hz; omega
    · rw [mem_mark h] at hz; simp at hz; omega
    · unfold colourL at h; split at h <;> simp at h; subst h; exact ht _ _ (by omega) (by omega) (by decide) (by decide) z hz
    · unfold colourL at h; split at h <;> simp at h; subst h; exact ht _ _ (by omega) (by omega) (by decide) (by decide) z hz
  · cases hr
def boldS : St := (true, false, false, false, false, false, false, 0, 1, -1)
theorem dec31 : Lib.decDigits 31 = [51, 49] := by
  rw [decDigits_big (by decide), decDigits_small (by decide)]
  rfl
theorem awake18_is (k : Nat) (hk : 13000 ≤ k) : clavierlaw18_awake.f k = some true := by
  have hp : style_Params.f true false false false false false false 0 1 (-1) = some (paramsV boldS) := Params_is _ _ _ _ _ _ _ _ _ _ (by decide) (by decide)
  have hv : paramsV boldS = [[0], [1], [31]] := by decide
  have ht : textP [[0], [1], [31]] = [48, 59, 49, 59, 51, 49] := by
    have e0 : textL 0 = [48] := by rw [textL_of (by decide)]; exact decDigits_small (by decide)
    have e1 : textL 1 = [49] := by rw [textL_of (by decide)]; exact decDigits_small (by decide)
    have e31 : textL 31 = [51, 49] := by rw [textL_of (by decide)]; exact dec31
    simp only [textP, partT, List.map_cons, List.map_nil, e0, e1, e31, Lib.join_one]
    rfl
  have hs := paramsV_small boldS
  have hi := paramsV_in boldS
  have hT := Text_is (paramsV boldS) hi hs k (by omega)
  have hA := Apply_is (false, false, false, false, false, false, true, 0, 0, 0) (paramsV boldS) hi (by have := hs.1; omega) k (by have := hs.1; omega)
  have hf : foldS (false, false, false, false, false, false, true, 0, 0, 0) (paramsV boldS) = boldS := by rw [hv]; rfl
  unfold clavierlaw18_awake.f
  rw [hp, Option.bind_some, hT, Option.bind_some, if_pos (by rw [hv, ht, Lib.toList_data]), hA, Option.bind_some, hf, if_pos (by decide), may_is, Option.bind_some, if_pos (by decide), may_is, Option.bind_some]
  decide
end Go.Proofs.YtbaigfoioiklkaaDoor.G
end
section
namespace Go.Proofs.YtbaigfoioiklkaaDoor.G
set_option linter.unusedVariables false
set_option linter.unusedSimpArgs false
open Go.RowKit Kit Go.Proofs.YtbaigfoioiklkaaDoorW.PrintWords
theorem fold_mark {s : St} {b : Bool} {n : Int} : foldS s (markL b n) = if b then oneS s [n] else s := by cases b <;> rfl
theorem m1 (b0 b1 b2 b3 b4 b5 b6 : Bool) (u f b : Int) : foldS (false, b1, b2, b3, b4, b5, b6, u, f, b) (markL b0 1) = (b0, b1, b2, b3, b4, b5, b6, u, f, b) := by
  rw [fold_mark]; cases b0 <;> simp [oneS, oneL, at_, saidI]
theorem m2 (b0 b1 b2 b3 b4 b5 b6 : Bool) (u f b : Int) : foldS (b0, false, b2, b3, b4, b5, b6, u, f, b) (markL b1 2) = (b0, b1, b2, b3, b4, b5, b6, u, f, b) := by
  rw [fold_mark]; cases b1 <;> simp [oneS, oneL, at_, saidI]
theorem m3 (b0 b1 b2 b3 b4 b5 b6 : Bool) (u f b : Int) : foldS (b0, b1, false, b3, b4, b5, b6, u, f, b) (markL b2 3) = (b0, b1, b2, b3, b4, b5, b6, u, f, b) := by
  rw [fold_mark]; cases b2 <;> simp [oneS, oneL, at_, saidI]
theorem m5 (b0 b1 b2 b3 b4 b5 b6 : Bool) (u f b : Int) : foldS (b0, b1, b2, false, b4, b5, b6, u, f, b) (markL b3 5) = (b0, b1, b2, b3, b4, b5, b6, u, f, b) := by
  rw [fold_mark]; cases b3 <;> simp [oneS, oneL, at_, saidI]
theorem one_other (b0 b1 b2 b3 b4 b5 b6 : Bool) (u f b : Int) (l : List Int) (hl : 0 < l.length) (hn : 10 ≤ at_ l 0) : oneS (b0, b1, b2, b3, b4, b5, b6, u, f, b) l = (b0, b1, b2, b3, b4, b5, b6, u, (if saidI l 30 = -2 then f else saidI l 30), (if saidI l 40 = -2 then b else saidI l 40)) := by
  unfold oneS oneL
  rw [if_neg (by omega), if_neg (by omega)]
  have e1 : (at_ l 0 == 1) = false := beq_eq_false_iff_ne.2 (by omega)
  have e2 : (at_ l 0 == 2) = false := beq_eq_false_iff_ne.2 (by omega)
  have e3 : (at_ l 0 == 3) = false := beq_eq_false_iff_ne.2 (by omega)
  have e5 : (at_ l 0 == 5) = false := beq_eq_false_iff_ne.2 (by omega)
  have e7 : (at_ l 0 == 7) = false := beq_eq_false_iff_ne.2 (by omega)
  have e8 : (at_ l 0 == 8) = false := beq_eq_false_iff_ne.2 (by omega)
  have e9 : (at_ l 0 == 9) = false := beq_eq_false_iff_ne.2 (by omega)
  simp only [e1, e2, e3, e5, e7, e8, e9, Bool.or_false]
end Go.Proofs.YtbaigfoioiklkaaDoor.G
end
