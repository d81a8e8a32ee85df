/- S: texts run together by shake.py: PuSj. -/
import Derived.ArgAppend
import Derived.Below
import Derived.BigQuiet
import Derived.ChangeOld
import Derived.ChangeSlices
import Derived.Deep.AppendLies
import Derived.Deep.CutBlock
import Derived.Deep.DeepCutAuto
import Derived.Deep.Draws
import Derived.Deep.LoopGhost
import Derived.Deep.Matrix
import Derived.Deep.OwnRows
import Derived.Deep.Quiet
import Derived.Deep.QuietTactic
import Derived.Deep.RegionHeld3
import Derived.KernelRfl
import Derived.Laws.AppendOwn
import Derived.Laws.AppendOwnNone
import Derived.Laws.BitsLemmas
import Derived.Laws.BytesArg
import Derived.Laws.Concat
import Derived.Laws.CopyRow
import Derived.Laws.IdiomCopy
import Derived.Laws.IdiomStrings
import Derived.Laws.MakeOwn
import Derived.Laws.OwnMore
import Derived.Laws.Rows
import Derived.Laws.Slices
import Derived.Laws.StructEq
import Derived.Lib.AppendIntMem
import Derived.Lib.AppendStr
import Derived.Lib.ConvBytes
import Derived.Lib.Hide
import Derived.Lib.ItoaLen
import Derived.Lib.ItoaNum
import Derived.Lib.Join
import Derived.Lib.LaidTab
import Derived.Lib.Strings
import Derived.MapKept
import Derived.Maps.AppendAt
import Derived.OpenShut
import Derived.Orders
import Derived.OrdersHeld
import Derived.Outline
import Derived.OwnWalk
import Derived.ProofKit
import Derived.RowKit
import Derived.RowKit3
import Derived.Shelf.LaysM
import Derived.Shelf.Strconv.Itoa0
import Derived.Shelf.Strconv.Itoa1
import Derived.Shelf.Strconv.Itoa2
import Derived.Shelf.Strconv.Itoa3
import Derived.Shelf.Strings.Builder1
import Derived.Shelf.Strings.Builder2
import Derived.Shelf.Strings.Builder2Cap
import Derived.Shelf.Strings.BuilderCap
import Derived.Shelf.Strings.BuilderF
import Derived.Shelf.Strings.BuilderK
import Derived.Shelf.Strings.OnBuilder
import Derived.ShutString
import Derived.SizedLaws
import Derived.Still
import Derived.Tactics
import Derived.Test.YtbaigfoioiklkaaDoorProg
import Derived.WalkKit
import Derived.WalkLawsBesides
import Derived.WalkSpells
import Derived.WideLaws
import Derived.Test.YtbaigfoioiklkaaDoorZS1
import Derived.Test.YtbaigfoioiklkaaDoorZS2
import Derived.Test.YtbaigfoioiklkaaDoorZS3
import Derived.Test.YtbaigfoioiklkaaDoorZS4
import Derived.Test.YtbaigfoioiklkaaDoorZS5
import Derived.Test.YtbaigfoioiklkaaDoorZS6
import Derived.Test.YtbaigfoioiklkaaDoorZS7
import Derived.Test.YtbaigfoioiklkaaDoorZS8
import Derived.Test.YtbaigfoioiklkaaDoorZS10
import Derived.Test.YtbaigfoioiklkaaDoorZS22
import Derived.Test.YtbaigfoioiklkaaDoorZS23
section
namespace Go.Proofs.YtbaigfoioiklkaaDoor.G
set_option linter.unusedVariables false
set_option linter.unusedSimpArgs false
open Go.RowKit Kit Go.Proofs.YtbaigfoioiklkaaDoorW.PrintWords
theorem few_small {l : List (List Int)} (h : l.length ≤ 40 ∧ ∀ r ∈ l, r.length ≤ 20) : Small l := ⟨by omega, fun r hr => by have := h.2 r hr; omega⟩
theorem may_one (s : St) (l : List Int) (h : mayL s.2.2.2.2.2.2.2.1 s.2.2.2.2.2.2.2.2.1 s.2.2.2.2.2.2.2.2.2 = true) : mayL (oneS s l).2.2.2.2.2.2.2.1 (oneS s l).2.2.2.2.2.2.2.2.1 (oneS s l).2.2.2.2.2.2.2.2.2 = true := by
  obtain ⟨b0, b1, b2, b3, b4, b5, b6, u, f, b⟩ := s
  have hr : ∀ base n, -1 ≤ n → n < 16777472 → -1 ≤ (if saidI l base = -2 then n else saidI l base) ∧ (if saidI l base = -2 then n else saidI l base) < 16777472 := by
    intro base n h0 h1
    split
    · exact ⟨h0, h1⟩
    · rename_i hne
      unfold saidI splitI at hne ⊢
      dsimp only at hne ⊢
      repeat' split
      all_goals first | omega | skip
      all_goals simp only [byteB, Bool.and_eq_true, decide_eq_true_eq] at *
      all_goals first | omega | (exfalso; revert hne; simp_all; done)
  simp only [mayL, colL, Bool.and_eq_true, decide_eq_true_eq] at h ⊢
  obtain ⟨h0, h1, ⟨h2, h3⟩, h4, h5⟩ := h
  unfold oneS oneL
  dsimp only
  split
  · decide
  · split
    · dsimp only
      refine ⟨?_, ?_, ⟨h2, h3⟩, h4, h5⟩ <;> (repeat' split) <;> omega
    · exact ⟨h0, h1, hr 30 f h2 h3, hr 40 b h4 h5⟩
theorem may_fold (l : List (List Int)) : ∀ s : St, mayL s.2.2.2.2.2.2.2.1 s.2.2.2.2.2.2.2.2.1 s.2.2.2.2.2.2.2.2.2 = true → mayL (foldS s l).2.2.2.2.2.2.2.1 (foldS s l).2.2.2.2.2.2.2.2.1 (foldS s l).2.2.2.2.2.2.2.2.2 = true := by
  induction l with
  | nil => intro s h; exact h
  | cons r l ih => intro s h; exact ih _ (may_one s r h)
theorem styleJoins_pure (b0 b1 b2 b3 b4 b5 b6 : Bool) (u f b : Int) (l m : List (List Int)) (hi : AllI l) (hm : AllI m) : clavierlaw18_StyleJoins.f 13001 b0 b1 b2 b3 b4 b5 b6 u f b l m = some true := by
  obtain ⟨t, ht, hft⟩ := few_is l 13001 (by decide)
  obtain ⟨t2, ht2, hft2⟩ := few_is m 13001 (by decide)
  unfold clavierlaw18_StyleJoins.f
  rw [awake18_is _ (by decide), Option.bind_some, ht, Option.bind_some]
  cases t with
  | false => rw [if_neg (by decide), clavierlaw18_StyleJoins.j0, if_pos rfl]
  | true =>
    rw [if_pos rfl, ht2, Option.bind_some]
    cases t2 with
    | false => rw [show (!false) = true from rfl, clavierlaw18_StyleJoins.j0, if_pos rfl]
    | true =>
      have hs := few_small (hft rfl)
      have hs2 := few_small (hft2 rfl)
      have hl := hs.1
      have hl2 := hs2.1
      have hb : AllI ([] ++ l ++ m) := by
        intro r hr
        simp only [List.nil_append, List.mem_append] at hr
        exact hr.elim (hi r) (hm r)
      have h1 := Apply_is (b0, b1, b2, b3, b4, b5, b6, u, f, b) ([] ++ l ++ m) hb (by simp; omega) 13000 (by simp; omega)
      have h2 := Apply_is (b0, b1, b2, b3, b4, b5, b6, u, f, b) l hi (by omega) 13000 (by omega)
      have h3 := Apply_is (foldS (b0, b1, b2, b3, b4, b5, b6, u, f, b) l) m hm (by omega) 13000 (by omega)
      have he : foldS (b0, b1, b2, b3, b4, b5, b6, u, f, b) ([] ++ l ++ m) = foldS (foldS (b0, b1, b2, b3, b4, b5, b6, u, f, b) l) m := by simp [foldS, List.foldl_append]
      rw [show (!true) = false from rfl, clavierlaw18_StyleJoins.j0, if_neg (by decide), Option.bind_some, if_pos (by simp; omega), Option.bind_some, if_pos (by simp; omega), h1, Option.bind_some, if_pos rfl, h2, Option.bind_some, h3, Option.bind_some, if_pos (by rw [he]; simp), may_is, Option.bind_some]
      cases h : mayL u f b with
      | false => rw [if_neg (by decide)]
      | true =>
        rw [if_pos rfl, may_is, Option.bind_some]
        exact congrArg some (may_fold _ (b0, b1, b2, b3, b4, b5, b6, u, f, b) h)
end Go.Proofs.YtbaigfoioiklkaaDoor.G
end
