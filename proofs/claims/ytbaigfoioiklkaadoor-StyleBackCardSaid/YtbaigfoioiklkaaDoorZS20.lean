/- S: texts run together by shake.py: PuSf. -/
import Derived.ArgAppend
import Derived.Below
import Derived.BigQuiet
import Derived.ChangeOld
import Derived.ChangeSlices
import Derived.Deep.AppendLies
import Derived.Deep.CutBlock
import Derived.Deep.DeepCutAuto
import Derived.Deep.Draws
import Derived.Deep.LoopGhost
import Derived.Deep.Matrix
import Derived.Deep.OwnRows
import Derived.Deep.Quiet
import Derived.Deep.QuietTactic
import Derived.Deep.RegionHeld3
import Derived.KernelRfl
import Derived.Laws.AppendOwn
import Derived.Laws.AppendOwnNone
import Derived.Laws.BitsLemmas
import Derived.Laws.BytesArg
import Derived.Laws.Concat
import Derived.Laws.CopyRow
import Derived.Laws.IdiomCopy
import Derived.Laws.IdiomStrings
import Derived.Laws.MakeOwn
import Derived.Laws.OwnMore
import Derived.Laws.Rows
import Derived.Laws.Slices
import Derived.Laws.StructEq
import Derived.Lib.AppendIntMem
import Derived.Lib.AppendStr
import Derived.Lib.ConvBytes
import Derived.Lib.Hide
import Derived.Lib.ItoaLen
import Derived.Lib.ItoaNum
import Derived.Lib.Join
import Derived.Lib.LaidTab
import Derived.Lib.Strings
import Derived.MapKept
import Derived.Maps.AppendAt
import Derived.OpenShut
import Derived.Orders
import Derived.OrdersHeld
import Derived.Outline
import Derived.OwnWalk
import Derived.ProofKit
import Derived.RowKit
import Derived.RowKit3
import Derived.Shelf.LaysM
import Derived.Shelf.Strconv.Itoa0
import Derived.Shelf.Strconv.Itoa1
import Derived.Shelf.Strconv.Itoa2
import Derived.Shelf.Strconv.Itoa3
import Derived.Shelf.Strings.Builder1
import Derived.Shelf.Strings.Builder2
import Derived.Shelf.Strings.Builder2Cap
import Derived.Shelf.Strings.BuilderCap
import Derived.Shelf.Strings.BuilderF
import Derived.Shelf.Strings.BuilderK
import Derived.Shelf.Strings.OnBuilder
import Derived.ShutString
import Derived.SizedLaws
import Derived.Still
import Derived.Tactics
import Derived.Test.YtbaigfoioiklkaaDoorProg
import Derived.WalkKit
import Derived.WalkLawsBesides
import Derived.WalkSpells
import Derived.WideLaws
import Derived.Test.YtbaigfoioiklkaaDoorZS1
import Derived.Test.YtbaigfoioiklkaaDoorZS2
import Derived.Test.YtbaigfoioiklkaaDoorZS3
import Derived.Test.YtbaigfoioiklkaaDoorZS4
import Derived.Test.YtbaigfoioiklkaaDoorZS5
import Derived.Test.YtbaigfoioiklkaaDoorZS6
import Derived.Test.YtbaigfoioiklkaaDoorZS18
import Derived.Test.YtbaigfoioiklkaaDoorZS19
section
namespace Go.Proofs.YtbaigfoioiklkaaDoor.G
set_option linter.unusedVariables false
set_option linter.unusedSimpArgs false
open Go.RowKit Kit Go.Proofs.YtbaigfoioiklkaaDoorW.PrintWords
theorem one_nought (s : St) : oneS s [0] = (false, false, false, false, false, false, false, 0, -1, -1) := by unfold oneS oneL; rw [if_pos (Or.inr (by simp [at_]))]
theorem fold_mark {s : St} {b : Bool} {n : Int} : foldS s (markL b n) = if b then oneS s [n] else s := by cases b <;> rfl
theorem m1 (b0 b1 b2 b3 b4 b5 b6 : Bool) (u f b : Int) : foldS (false, b1, b2, b3, b4, b5, b6, u, f, b) (markL b0 1) = (b0, b1, b2, b3, b4, b5, b6, u, f, b) := by
  rw [fold_mark]; cases b0 <;> simp [oneS, oneL, at_, saidI]
theorem m2 (b0 b1 b2 b3 b4 b5 b6 : Bool) (u f b : Int) : foldS (b0, false, b2, b3, b4, b5, b6, u, f, b) (markL b1 2) = (b0, b1, b2, b3, b4, b5, b6, u, f, b) := by
  rw [fold_mark]; cases b1 <;> simp [oneS, oneL, at_, saidI]
theorem m3 (b0 b1 b2 b3 b4 b5 b6 : Bool) (u f b : Int) : foldS (b0, b1, false, b3, b4, b5, b6, u, f, b) (markL b2 3) = (b0, b1, b2, b3, b4, b5, b6, u, f, b) := by
  rw [fold_mark]; cases b2 <;> simp [oneS, oneL, at_, saidI]
theorem m5 (b0 b1 b2 b3 b4 b5 b6 : Bool) (u f b : Int) : foldS (b0, b1, b2, false, b4, b5, b6, u, f, b) (markL b3 5) = (b0, b1, b2, b3, b4, b5, b6, u, f, b) := by
  rw [fold_mark]; cases b3 <;> simp [oneS, oneL, at_, saidI]
theorem m7 (b0 b1 b2 b3 b4 b5 b6 : Bool) (u f b : Int) : foldS (b0, b1, b2, b3, false, b5, b6, u, f, b) (markL b4 7) = (b0, b1, b2, b3, b4, b5, b6, u, f, b) := by
  rw [fold_mark]; cases b4 <;> simp [oneS, oneL, at_, saidI]
theorem m8 (b0 b1 b2 b3 b4 b5 b6 : Bool) (u f b : Int) : foldS (b0, b1, b2, b3, b4, false, b6, u, f, b) (markL b5 8) = (b0, b1, b2, b3, b4, b5, b6, u, f, b) := by
  rw [fold_mark]; cases b5 <;> simp [oneS, oneL, at_, saidI]
theorem m9 (b0 b1 b2 b3 b4 b5 b6 : Bool) (u f b : Int) : foldS (b0, b1, b2, b3, b4, b5, false, u, f, b) (markL b6 9) = (b0, b1, b2, b3, b4, b5, b6, u, f, b) := by
  rw [fold_mark]; cases b6 <;> simp [oneS, oneL, at_, saidI]
theorem mU (b0 b1 b2 b3 b4 b5 b6 : Bool) (u f b : Int) (h0 : 0 ≤ u) (h1 : u ≤ 5) : foldS (b0, b1, b2, b3, b4, b5, b6, 0, f, b) (underL u) = (b0, b1, b2, b3, b4, b5, b6, u, f, b) := by
  unfold underL
  by_cases e1 : u = 1
  · subst e1; rw [if_pos rfl]; simp [foldS, oneS, oneL, at_]
  · rw [if_neg e1]
    by_cases e2 : 1 < u
    · rw [if_pos e2]; simp [foldS, oneS, oneL, at_, h0, h1]
    · rw [if_neg e2]
      have : u = 0 := by omega
      subst this; rfl
theorem one_other (b0 b1 b2 b3 b4 b5 b6 : Bool) (u f b : Int) (l : List Int) (hl : 0 < l.length) (hn : 10 ≤ at_ l 0) : oneS (b0, b1, b2, b3, b4, b5, b6, u, f, b) l = (b0, b1, b2, b3, b4, b5, b6, u, (if saidI l 30 = -2 then f else saidI l 30), (if saidI l 40 = -2 then b else saidI l 40)) := by
  unfold oneS oneL
  rw [if_neg (by omega), if_neg (by omega)]
  have e1 : (at_ l 0 == 1) = false := beq_eq_false_iff_ne.2 (by omega)
  have e2 : (at_ l 0 == 2) = false := beq_eq_false_iff_ne.2 (by omega)
  have e3 : (at_ l 0 == 3) = false := beq_eq_false_iff_ne.2 (by omega)
  have e5 : (at_ l 0 == 5) = false := beq_eq_false_iff_ne.2 (by omega)
  have e7 : (at_ l 0 == 7) = false := beq_eq_false_iff_ne.2 (by omega)
  have e8 : (at_ l 0 == 8) = false := beq_eq_false_iff_ne.2 (by omega)
  have e9 : (at_ l 0 == 9) = false := beq_eq_false_iff_ne.2 (by omega)
  simp only [e1, e2, e3, e5, e7, e8, e9, Bool.or_false]
theorem said_tint (n base other : Int) (h0 : 0 ≤ n) (h1 : n < 16777472) (hb : base = 30 ∧ other = 40 ∨ base = 40 ∧ other = 30) : 0 < (tintL n base).length ∧ 10 ≤ at_ (tintL n base) 0 ∧ saidI (tintL n base) base = n ∧ saidI (tintL n base) other = -2 := by
  by_cases g1 : n < 8
  · have e : tintL n base = [base + n] := by unfold tintL; rw [if_pos g1]
    have ha : at_ [base + n] 0 = base + n := rfl
    rw [e]; unfold saidI; simp only [ha]
    refine ⟨by simp, by omega, ?_, ?_⟩
    · rw [if_pos (by omega)]; omega
    · rw [if_neg (by omega), if_neg (by omega), if_neg (by omega), if_neg (by omega)]
  · by_cases g2 : n < 16
    · have e : tintL n base = [base + 52 + n] := by unfold tintL; rw [if_neg g1, if_pos g2]
      have ha : at_ [base + 52 + n] 0 = base + 52 + n := rfl
      rw [e]; unfold saidI; simp only [ha]
      refine ⟨by simp, by omega, ?_, ?_⟩
      · rw [if_neg (by omega), if_neg (by omega), if_neg (by omega), if_pos (by omega)]; omega
      · rw [if_neg (by omega), if_neg (by omega), if_neg (by omega), if_neg (by omega)]
    · by_cases g3 : n < 256
      · have e : tintL n base = [base + 8, 5, n] := by unfold tintL; rw [if_neg g1, if_neg g2, if_pos g3]
        have ha : at_ [base + 8, 5, n] 0 = base + 8 := rfl
        have hs : splitI [base + 8, 5, n] = n := by unfold splitI; rw [if_pos ⟨rfl, rfl, by simp [byteB, at_]; omega⟩]; rfl
        rw [e]; unfold saidI; simp only [ha]
        refine ⟨by simp, by omega, ?_, ?_⟩
        · rw [if_neg (by omega), if_pos (by omega), hs]
        · rw [if_neg (by omega), if_neg (by omega), if_neg (by omega), if_neg (by omega)]
      · have e : tintL n base = [base + 8, 2, -1, (n - 256) / 65536, (n - 256) / 256 % 256, (n - 256) % 256] := by unfold tintL; rw [if_neg g1, if_neg g2, if_neg g3]
        have ha : at_ [base + 8, 2, -1, (n - 256) / 65536, (n - 256) / 256 % 256, (n - 256) % 256] 0 = base + 8 := rfl
        have hs : splitI [base + 8, 2, -1, (n - 256) / 65536, (n - 256) / 256 % 256, (n - 256) % 256] = n := by
          unfold splitI
          rw [if_neg (by simp), if_pos ⟨rfl, rfl, by simp [byteB, at_]; omega, by simp [byteB, at_]; omega, by simp [byteB, at_]; omega⟩]
          simp only [at_, List.getElem?_cons_succ, List.getElem?_cons_zero, Option.getD_some]
          omega
        rw [e]; unfold saidI; simp only [ha]
        refine ⟨by simp, by omega, ?_, ?_⟩
        · rw [if_neg (by omega), if_pos (by omega), hs]
        · rw [if_neg (by omega), if_neg (by omega), if_neg (by omega), if_neg (by omega)]
theorem mF (b0 b1 b2 b3 b4 b5 b6 : Bool) (u f b : Int) (h0 : -1 ≤ f) (h1 : f < 16777472) : foldS (b0, b1, b2, b3, b4, b5, b6, u, -1, b) (colourL f 30) = (b0, b1, b2, b3, b4, b5, b6, u, f, b) := by
  unfold colourL
  by_cases e : f = -1
  · subst e; rw [if_pos rfl]; rfl
  · obtain ⟨g0, g1, g2, g3⟩ := said_tint f 30 40 (by omega) h1 (.inl ⟨rfl, rfl⟩)
    rw [if_neg e]
    show oneS _ _ = _
    rw [one_other _ _ _ _ _ _ _ _ _ _ _ g0 g1, g2, g3, if_neg (by omega), if_pos rfl]
theorem mB (b0 b1 b2 b3 b4 b5 b6 : Bool) (u f b : Int) (h0 : -1 ≤ b) (h1 : b < 16777472) : foldS (b0, b1, b2, b3, b4, b5, b6, u, f, -1) (colourL b 40) = (b0, b1, b2, b3, b4, b5, b6, u, f, b) := by
  unfold colourL
  by_cases e : b = -1
  · subst e; rw [if_pos rfl]; rfl
  · obtain ⟨g0, g1, g2, g3⟩ := said_tint b 40 30 (by omega) h1 (.inr ⟨rfl, rfl⟩)
    rw [if_neg e]
    show oneS _ _ = _
    rw [one_other _ _ _ _ _ _ _ _ _ _ _ g0 g1, g2, g3, if_pos rfl, if_neg (by omega)]
theorem fold_app (s : St) (a b : List (List Int)) : foldS s (a ++ b) = foldS (foldS s a) b := List.foldl_append ..
theorem back_is (s : St) (b0 b1 b2 b3 b4 b5 b6 : Bool) (u f b : Int) (h : mayL u f b = true) : foldS s (paramsV (b0, b1, b2, b3, b4, b5, b6, u, f, b)) = (b0, b1, b2, b3, b4, b5, b6, u, f, b) := by
  have hm := h
  simp only [mayL, colL, Bool.and_eq_true, decide_eq_true_eq] at hm
  obtain ⟨h0, h1, ⟨h2, h3⟩, h4, h5⟩ := hm
  have hz : foldS s [[0]] = (false, false, false, false, false, false, false, 0, -1, -1) := one_nought s
  unfold paramsV
  rw [if_pos h]
  show foldS s (paramsL b0 b1 b2 b3 b4 b5 b6 u f b) = _
  unfold paramsL
  rw [fold_app, fold_app, fold_app, fold_app, fold_app, fold_app, fold_app, fold_app, fold_app, fold_app, hz, m1, m2, m3, mU _ _ _ _ _ _ _ _ _ _ h0 h1, m5, m7, m8, m9, mF _ _ _ _ _ _ _ _ _ _ h2 h3, mB _ _ _ _ _ _ _ _ _ _ h4 h5]
theorem cut_eq (c : UInt8) : ∀ (a b r s : List UInt8), c ∉ a → c ∉ b → a ++ c :: r = b ++ c :: s → a = b ∧ r = s := by
  intro a
  induction a with
  | nil =>
    intro b r s ha hb h
    cases b with
    | nil => simp at h; exact ⟨rfl, h⟩
    | cons x b => simp at h; exact absurd h.1 (fun e => hb (by rw [e]; exact List.mem_cons_self))
  | cons y a ih =>
    intro b r s ha hb h
    cases b with
    | nil => simp at h; exact absurd h.1 (fun e => ha (by rw [← e]; exact List.mem_cons_self))
    | cons x b =>
      simp only [List.cons_append, List.cons.injEq] at h
      obtain ⟨rfl, h⟩ := h
      obtain ⟨h1, h2⟩ := ih b r s (fun m => ha (List.mem_cons_of_mem _ m)) (fun m => hb (List.mem_cons_of_mem _ m)) h
      exact ⟨by rw [h1], h2⟩
theorem join_two (x y : List UInt8) (r : List (List UInt8)) (c : UInt8) : Lib.join (x :: y :: r) [c] = x ++ c :: Lib.join (y :: r) [c] := by
  simp [Lib.join, List.intercalate, List.intersperse]
theorem join_inj (c : UInt8) : ∀ (xs ys : List (List UInt8)), xs ≠ [] → ys ≠ [] → (∀ x ∈ xs, c ∉ x) → (∀ y ∈ ys, c ∉ y) → Lib.join xs [c] = Lib.join ys [c] → xs = ys := by
  intro xs
  induction xs with
  | nil => intro ys h; exact absurd rfl h
  | cons x xs ih =>
    intro ys _ hy hx hys h
    cases ys with
    | nil => exact absurd rfl hy
    | cons y ys =>
      have hx0 := hx x List.mem_cons_self
      have hy0 := hys y List.mem_cons_self
      cases xs with
      | nil =>
        cases ys with
        | nil => rw [Lib.join_one, Lib.join_one] at h; rw [h]
        | cons y2 ys => rw [Lib.join_one, join_two] at h; exact absurd (by rw [h]; simp) hx0
      | cons x2 xs =>
        cases ys with
        | nil => rw [Lib.join_one, join_two] at h; exact absurd (by rw [← h]; simp) hy0
        | cons y2 ys =>
          rw [join_two, join_two] at h
          obtain ⟨h1, h2⟩ := cut_eq c _ _ _ _ hx0 hy0 h
          rw [h1, ih (y2 :: ys) (by simp) (by simp) (fun z hz => hx z (List.mem_cons_of_mem _ hz)) (fun z hz => hys z (List.mem_cons_of_mem _ hz)) h2]
def Fair (r : List Int) : Prop := r ≠ [] ∧ ∀ z ∈ r, -1 ≤ z ∧ z ≤ 1114111
theorem text_inj1 {a b : Int} (ha : -1 ≤ a ∧ a ≤ 1114111) (hb : -1 ≤ b ∧ b ≤ 1114111) (h : textL a = textL b) : a = b := by
  have hm : textL (-1) = [] := by decide
  by_cases e1 : a = -1
  · by_cases e2 : b = -1
    · rw [e1, e2]
    · have := (textL_len (a := b) (by omega) (by omega)).2
      rw [← h, e1, hm] at this
      simp at this
  · by_cases e2 : b = -1
    · have := (textL_len (a := a) (by omega) (by omega)).2
      rw [h, e2, hm] at this
      simp at this
    · exact textL_inj (by omega) (by omega) ha.2 hb.2 h
theorem text_no {n : Int} {c : UInt8} (hc : figU c = false) : c ∉ textL n := fun h => by have := textL_figs n c h; rw [hc] at this; cases this
theorem map_inj_on {α β : Type} (f : α → β) (P : α → Prop) (hf : ∀ a b, P a → P b → f a = f b → a = b) : ∀ (l m : List α), (∀ x ∈ l, P x) → (∀ x ∈ m, P x) → l.map f = m.map f → l = m := by
  intro l
  induction l with
  | nil => intro m _ _ h; cases m with
    | nil => rfl
    | cons y m => simp at h
  | cons x l ih =>
    intro m hl hm h
    cases m with
    | nil => simp at h
    | cons y m =>
      simp only [List.map_cons, List.cons.injEq] at h
      rw [hf x y (hl x List.mem_cons_self) (hm y List.mem_cons_self) h.1, ih m (fun z hz => hl z (List.mem_cons_of_mem _ hz)) (fun z hz => hm z (List.mem_cons_of_mem _ hz)) h.2]
theorem part_inj {r s : List Int} (hr : Fair r) (hs : Fair s) (h : partT r = partT s) : r = s := by
  have h58 : figU 58 = false := by decide
  have := join_inj 58 (r.map textL) (s.map textL) (by simpa using hr.1) (by simpa using hs.1)
    (fun x hx => by obtain ⟨z, _, rfl⟩ := List.mem_map.1 hx; exact text_no h58) (fun x hx => by obtain ⟨z, _, rfl⟩ := List.mem_map.1 hx; exact text_no h58) h
  exact map_inj_on textL (fun z => -1 ≤ z ∧ z ≤ 1114111) (fun a b => text_inj1) r s hr.2 hs.2 this
theorem mem_tail {c : UInt8} {sep : List UInt8} (hs : c ∉ sep) : ∀ (xs : List (List UInt8)), (∀ x ∈ xs, c ∉ x) → c ∉ Lib.join xs sep := by
  intro xs h hc
  unfold Lib.join List.intercalate at hc
  obtain ⟨l, hl, hcl⟩ := List.mem_flatten.1 hc
  have : ∀ (xs : List (List UInt8)) (l : List UInt8), l ∈ List.intersperse sep xs → l = sep ∨ l ∈ xs := by
    intro xs
    induction xs with
    | nil => intro l hl; simp at hl
    | cons x xs ih =>
      intro l hl
      cases xs with
      | nil => simp at hl; exact .inr (by simp [hl])
      | cons y xs =>
        simp only [List.intersperse_cons_cons, List.mem_cons] at hl
        rcases hl with rfl | rfl | hl
        · exact .inr List.mem_cons_self
        · exact .inl rfl
        · rcases ih l hl with h | h
          · exact .inl h
          · exact .inr (List.mem_cons_of_mem _ h)
  rcases this xs l hl with rfl | h2
  · exact hs hcl
  · exact h l h2 hcl
theorem textP_inj {l m : List (List Int)} (hl : l ≠ []) (hm : m ≠ []) (fl : ∀ r ∈ l, Fair r) (fm : ∀ r ∈ m, Fair r) (h : textP l = textP m) : l = m := by
  have h59 : figU 59 = false := by decide
  have hp : ∀ r : List Int, (59 : UInt8) ∉ partT r := fun r => mem_tail (by decide) _ (fun x hx => by obtain ⟨z, _, rfl⟩ := List.mem_map.1 hx; exact text_no h59)
  have := join_inj 59 (l.map partT) (m.map partT) (by simpa using hl) (by simpa using hm)
    (fun x hx => by obtain ⟨z, _, rfl⟩ := List.mem_map.1 hx; exact hp _) (fun x hx => by obtain ⟨z, _, rfl⟩ := List.mem_map.1 hx; exact hp _) h
  exact map_inj_on partT Fair (fun a b => part_inj) l m fl fm this
theorem fair_one {n : Int} (h0 : -1 ≤ n) (h1 : n ≤ 1114111) : Fair [n] := ⟨by simp, fun z hz => by simp at hz; subst hz; exact ⟨h0, h1⟩⟩
theorem fair_tint (n base : Int) (h0 : 0 ≤ n) (h1 : n < 16777472) (hb : base = 30 ∨ base = 40) : Fair (tintL n base) := by
  unfold tintL
  repeat' split
  · exact fair_one (by omega) (by omega)
  · exact fair_one (by omega) (by omega)
  · refine ⟨by simp, fun z hz => ?_⟩
    simp at hz
    omega
  · refine ⟨by simp, fun z hz => ?_⟩
    simp at hz
    omega
theorem paramsV_fair (b0 b1 b2 b3 b4 b5 b6 : Bool) (u f b : Int) (h : mayL u f b = true) : paramsV (b0, b1, b2, b3, b4, b5, b6, u, f, b) ≠ [] ∧ ∀ r ∈ paramsV (b0, b1, b2, b3, b4, b5, b6, u, f, b), Fair r := by
  have hm := h
  simp only [mayL, colL, Bool.and_eq_true, decide_eq_true_eq] at hm
  obtain ⟨h0, h1, ⟨h2, h3⟩, h4, h5⟩ := hm
  have hc : ∀ n base r, r ∈ colourL n base → -1 ≤ n → n < 16777472 → base = 30 ∨ base = 40 → Fair r := by
    intro n base r hr k0 k1 hb
    unfold colourL at hr
    split at hr
    · cases hr
    · rename_i hne
      rw [List.mem_singleton.1 hr]
      exact fair_tint n base (by omega) k1 hb
  have e : paramsV (b0, b1, b2, b3, b4, b5, b6, u, f, b) = paramsL b0 b1 b2 b3 b4 b5 b6 u f b := by unfold paramsV; rw [if_pos h]
  rw [e]
  refine ⟨by simp [paramsL], fun r hr => ?_⟩
  simp only [paramsL, List.mem_append] at hr
  rcases hr with (((((((((h | h) | h) | h) | h) | h) | h) | h) | h) | h) | h
  · rw [List.mem_singleton.1 h]; exact fair_one (by decide) (by decide)
  · rw [mem_mark h]; exact fair_one (by decide) (by decide)
  · rw [mem_mark h]; exact fair_one (by decide) (by decide)
  · rw [mem_mark h]; exact fair_one (by decide) (by decide)
  · unfold underL at h
    repeat' split at h
    · rw [List.mem_singleton.1 h]; exact fair_one (by decide) (by decide)
    · rw [List.mem_singleton.1 h]
      refine ⟨by simp, fun z hz => ?_⟩
      simp at hz
      omega
    · cases h
  · rw [mem_mark h]; exact fair_one (by decide) (by decide)
  · rw [mem_mark h]; exact fair_one (by decide) (by decide)
  · rw [mem_mark h]; exact fair_one (by decide) (by decide)
  · rw [mem_mark h]; exact fair_one (by decide) (by decide)
  · exact hc f 30 r h h2 h3 (.inl rfl)
  · exact hc b 40 r h h4 h5 (.inr rfl)
theorem styleBack_pure (b0 b1 b2 b3 b4 b5 b6 : Bool) (u f b : Int) (d0 d1 d2 d3 d4 d5 d6 : Bool) (v g c : Int) (e0 e1 e2 e3 e4 e5 e6 : Bool) (w j i : Int)
    (hf : -9223372036854775808 ≤ f) (hb : -9223372036854775808 ≤ b) (hg : -9223372036854775808 ≤ g) (hc : -9223372036854775808 ≤ c) :
    clavierlaw18_StyleBack.f 13001 b0 b1 b2 b3 b4 b5 b6 u f b d0 d1 d2 d3 d4 d5 d6 v g c e0 e1 e2 e3 e4 e5 e6 w j i = some true := by
  unfold clavierlaw18_StyleBack.f
  rw [awake18_is _ (by decide), Option.bind_some, may_is, Option.bind_some]
  cases hm : mayL u f b with
  | false => rw [if_neg (by decide), clavierlaw18_StyleBack.j0, if_pos rfl]
  | true =>
    rw [if_pos rfl, may_is, Option.bind_some]
    cases hm2 : mayL v g c with
    | false => rw [show (!false) = true from rfl, clavierlaw18_StyleBack.j0, if_pos rfl]
    | true =>
      have hs := paramsV_small (b0, b1, b2, b3, b4, b5, b6, u, f, b)
      have hi := paramsV_in (b0, b1, b2, b3, b4, b5, b6, u, f, b)
      have hs2 := paramsV_small (d0, d1, d2, d3, d4, d5, d6, v, g, c)
      have hi2 := paramsV_in (d0, d1, d2, d3, d4, d5, d6, v, g, c)
      have hA := Apply_is (e0, e1, e2, e3, e4, e5, e6, w, j, i) _ hi (by have := hs.1; omega) 13000 (by have := hs.1; omega)
      rw [back_is _ _ _ _ _ _ _ _ _ _ _ hm] at hA
      rw [show (!true) = false from rfl, clavierlaw18_StyleBack.j0, if_neg (by decide), Params_is _ _ _ _ _ _ _ _ _ _ hf hb, Option.bind_some, Text_is _ hi hs _ (by decide), Option.bind_some, Params_is _ _ _ _ _ _ _ _ _ _ hg hc, Option.bind_some, Text_is _ hi2 hs2 _ (by decide), Option.bind_some, if_pos rfl, Option.bind_some, hA, Option.bind_some, if_pos (by simp)]
      refine congrArg some ?_
      obtain ⟨n1, f1⟩ := paramsV_fair b0 b1 b2 b3 b4 b5 b6 u f b hm
      obtain ⟨n2, f2⟩ := paramsV_fair d0 d1 d2 d3 d4 d5 d6 v g c hm2
      rw [beq_iff_eq, Bool.eq_iff_iff]
      simp only [beq_iff_eq, Bool.and_eq_true]
      constructor
      · intro h
        rw [Lib.toList_data, Lib.toList_data] at h
        have ht : textP (paramsV (b0, b1, b2, b3, b4, b5, b6, u, f, b)) = textP (paramsV (d0, d1, d2, d3, d4, d5, d6, v, g, c)) := by simpa using h
        have hp := textP_inj n1 n2 f1 f2 ht
        have k1 := back_is (e0, e1, e2, e3, e4, e5, e6, w, j, i) b0 b1 b2 b3 b4 b5 b6 u f b hm
        have k2 := back_is (e0, e1, e2, e3, e4, e5, e6, w, j, i) d0 d1 d2 d3 d4 d5 d6 v g c hm2
        rw [hp, k2] at k1
        simp only [Prod.mk.injEq] at k1
        obtain ⟨rfl, rfl, rfl, rfl, rfl, rfl, rfl, rfl, rfl, rfl⟩ := k1
        simp
      · rintro ⟨rfl, rfl, rfl, rfl, rfl, rfl, rfl, rfl, rfl, rfl⟩
        rfl
end Go.Proofs.YtbaigfoioiklkaaDoor.G
end
