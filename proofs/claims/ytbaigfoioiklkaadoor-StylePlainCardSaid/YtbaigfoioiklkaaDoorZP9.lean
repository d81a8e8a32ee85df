/- P: texts run together by shake.py: PuSp. -/
import Derived.ArgAppend
import Derived.Below
import Derived.BigQuiet
import Derived.ChangeOld
import Derived.ChangeSlices
import Derived.Deep.AppendLies
import Derived.Deep.CutBlock
import Derived.Deep.DeepCutAuto
import Derived.Deep.Draws
import Derived.Deep.LoopGhost
import Derived.Deep.Matrix
import Derived.Deep.OwnRows
import Derived.Deep.Quiet
import Derived.Deep.QuietTactic
import Derived.Deep.RegionHeld3
import Derived.KernelRfl
import Derived.Laws.AppendOwn
import Derived.Laws.AppendOwnNone
import Derived.Laws.BitsLemmas
import Derived.Laws.BytesArg
import Derived.Laws.Concat
import Derived.Laws.CopyRow
import Derived.Laws.IdiomCopy
import Derived.Laws.IdiomStrings
import Derived.Laws.MakeOwn
import Derived.Laws.OwnMore
import Derived.Laws.Rows
import Derived.Laws.Slices
import Derived.Laws.StructEq
import Derived.Lib.AppendIntMem
import Derived.Lib.AppendStr
import Derived.Lib.ConvBytes
import Derived.Lib.Hide
import Derived.Lib.ItoaLen
import Derived.Lib.ItoaNum
import Derived.Lib.Join
import Derived.Lib.LaidTab
import Derived.Lib.Strings
import Derived.MapKept
import Derived.Maps.AppendAt
import Derived.OpenShut
import Derived.Orders
import Derived.OrdersHeld
import Derived.Outline
import Derived.OwnWalk
import Derived.ProofKit
import Derived.RowKit
import Derived.RowKit3
import Derived.Shelf.LaysM
import Derived.Shelf.Strconv.Itoa0
import Derived.Shelf.Strconv.Itoa1
import Derived.Shelf.Strconv.Itoa2
import Derived.Shelf.Strconv.Itoa3
import Derived.Shelf.Strings.Builder1
import Derived.Shelf.Strings.Builder2
import Derived.Shelf.Strings.Builder2Cap
import Derived.Shelf.Strings.BuilderCap
import Derived.Shelf.Strings.BuilderF
import Derived.Shelf.Strings.BuilderK
import Derived.Shelf.Strings.OnBuilder
import Derived.ShutString
import Derived.SizedLaws
import Derived.Still
import Derived.Tactics
import Derived.Test.YtbaigfoioiklkaaDoorProg
import Derived.WalkKit
import Derived.WalkLawsBesides
import Derived.WalkSpells
import Derived.WideLaws
import Derived.Test.YtbaigfoioiklkaaDoorZP1
import Derived.Test.YtbaigfoioiklkaaDoorZP2
import Derived.Test.YtbaigfoioiklkaaDoorZP3
import Derived.Test.YtbaigfoioiklkaaDoorZP4
import Derived.Test.YtbaigfoioiklkaaDoorZP5
import Derived.Test.YtbaigfoioiklkaaDoorZP6
import Derived.Test.YtbaigfoioiklkaaDoorZP7
import Derived.Test.YtbaigfoioiklkaaDoorZP8
section
namespace Go.Proofs.YtbaigfoioiklkaaDoor.G
set_option linter.unusedVariables false
set_option linter.unusedSimpArgs false
open Go.RowKit Kit Go.Proofs.YtbaigfoioiklkaaDoorW.PrintWords
theorem params_inner (l : List (List Int)) (i : Nat) (hil : i < l.length) (hf : Fair l[i]) (hl : l[i].length ≤ 8) (hlen : l.length ≤ 16) (K : Nat) (ih : ∀ k', K ≤ k' → clavierref03_params.l0 k' l ((i + 1 : Nat) : Int) = some true) : ∀ d j k : Nat, j + d = l[i].length → d + 1 + K ≤ k → clavierref03_params.l1 k l (i : Int) (j : Int) = some true := by
  intro d
  induction d with
  | zero =>
    intro j k hj hk
    obtain ⟨k, rfl⟩ : ∃ m, k = m + 1 := ⟨k - 1, by omega⟩
    have hw : wrap64 ((i : Int) + 1) = ((i + 1 : Nat) : Int) := by unfold wrap64; omega
    rw [clavierref03_params.l1, if_pos (by omega), if_pos (by omega), rd_rowQ l i hil, if_neg (by omega), hw]
    exact ih k (by omega)
  | succ d ihd =>
    intro j k hj hk
    obtain ⟨k, rfl⟩ : ∃ m, k = m + 1 := ⟨k - 1, by omega⟩
    have hw : wrap64 ((j : Int) + 1) = ((j + 1 : Nat) : Int) := by unfold wrap64; omega
    have hv := hf.2 (l[i][j]'(by omega)) (List.getElem_mem _)
    rw [clavierref03_params.l1, if_pos (by omega), if_pos (by omega), rd_rowQ l i hil, if_pos (by omega), if_pos (by omega), rd_int l[i] j (by omega), if_neg (by omega), if_neg (by omega), hw]
    exact ihd (j + 1) k (by omega) (by omega)
theorem params_outer (l : List (List Int)) (hlen : l.length ≤ 16) (hr : ∀ r ∈ l, Fair r ∧ r.length ≤ 8) : ∀ d i k : Nat, i + d = l.length → d * 12 + 5 ≤ k → clavierref03_params.l0 k l (i : Int) = some true := by
  intro d
  induction d with
  | zero =>
    intro i k hi hk
    obtain ⟨k, rfl⟩ : ∃ m, k = m + 1 := ⟨k - 1, by omega⟩
    rw [clavierref03_params.l0, if_neg (by omega)]
  | succ d ih =>
    intro i k hi hk
    obtain ⟨k, rfl⟩ : ∃ m, k = m + 2 := ⟨k - 2, by omega⟩
    have hil : i < l.length := by omega
    obtain ⟨hf, h8⟩ := hr l[i] (List.getElem_mem _)
    have h1 : 0 < l[i].length := List.length_pos_iff.2 hf.1
    have hd : decide ((l[i].length : Int) > 8) = false := decide_eq_false (by omega)
    rw [clavierref03_params.l0, if_pos (by omega), if_pos (by omega), rd_rowQ l i hil, if_neg (by omega), hd, clavierref03_params.j2, if_neg (by decide)]
    exact params_inner l i hil hf h8 hlen (d * 12 + 5) (fun k' hk' => ih (i + 1) k' (by omega) hk') l[i].length 0 k (by omega) (by omega)
theorem params_f (l : List (List Int)) (hlen : l.length ≤ 16) (hr : ∀ r ∈ l, Fair r ∧ r.length ≤ 8) (hh : ∀ h : 0 < l.length, l[0] = [0]) (k : Nat) (hk : 300 ≤ k) : clavierref03_params.f k l = some true := by
  obtain ⟨k, rfl⟩ : ∃ m, k = m + 1 := ⟨k - 1, by omega⟩
  have hz : clavierref03_params.l0 k l 0 = some true := params_outer l hlen hr l.length 0 k (by omega) (by omega)
  have hj : clavierref03_params.j0 (k + 1) l false = some true := by rw [clavierref03_params.j0, if_neg (by decide)]; exact hz
  unfold clavierref03_params.f
  rw [if_neg (by omega)]
  by_cases h1 : (l.length : Int) = 1
  · have h0 : 0 < l.length := by omega
    have e : rd_L1 l 0 = [0] := (rd_rowQ l 0 h0).trans (hh h0)
    rw [if_pos h1, if_pos (by omega), e, if_pos (by simp), if_pos (by simp), show (rd [0] 0 == (-1 : Int)) = false by decide, hj]
  · rw [if_neg h1, hj]
theorem within_nil (a b : Int) (k : Nat) (hk : 1 ≤ k) : clavierref03_within.f k ⟨#[]⟩ a b = some true := by
  obtain ⟨k, rfl⟩ : ∃ m, k = m + 1 := ⟨k - 1, by omega⟩
  rw [clavierref03_within.f, clavierref03_within.l0, if_neg (by decide)]
theorem last_m (l : List (List Int)) (k : Nat) (hk : 1 ≤ k) : clavierref03_last.f k 1 0 l ⟨#[]⟩ 109 ⟨#[]⟩ = some true := by
  obtain ⟨k, rfl⟩ : ∃ m, k = m + 1 := ⟨k - 1, by omega⟩
  rw [clavierref03_last.f, if_pos rfl, clavierref03_last.j0, if_pos (by decide), if_pos (by decide)]
  rfl
theorem bare_m (l : List (List Int)) (k : Nat) (hk : 2 ≤ k) : clavierref03_bare.f k 1 0 l ⟨#[]⟩ 109 ⟨#[]⟩ = some true := by
  obtain ⟨k, rfl⟩ : ∃ m, k = m + 2 := ⟨k - 2, by omega⟩
  rw [clavierref03_bare.f, if_neg (by decide), if_neg (by decide), clavierref03_bare.j0, if_neg (by decide), clavierref03_bare.j1, if_neg (by decide), if_neg (by decide), if_neg (by decide), if_pos (by rw [Lib.toList_data])]
theorem seqMay_m (l : List (List Int)) (hlen : l.length ≤ 16) (hr : ∀ r ∈ l, Fair r ∧ r.length ≤ 8) (hh : ∀ h : 0 < l.length, l[0] = [0]) (k : Nat) (hk : 300 ≤ k) : clavierref03_May.f k 1 0 l ⟨#[]⟩ 109 ⟨#[]⟩ = some 0 := by
  rw [clavierref03_May.f, if_neg (by decide), if_pos rfl, params_f l hlen hr hh k hk, Option.bind_some, if_pos rfl, if_neg (by decide), within_nil _ _ _ (by omega), Option.bind_some, if_pos rfl, within_nil _ _ _ (by omega), Option.bind_some, if_pos rfl, last_m _ _ (by omega), Option.bind_some, if_pos rfl, bare_m _ _ (by omega), Option.bind_some, if_pos rfl]
theorem stylePlain_pure (b0 b1 b2 b3 b4 b5 b6 : Bool) (u f b : Int) (hf : -9223372036854775808 ≤ f) (hb : -9223372036854775808 ≤ b) (l : List (List Int)) (hi : AllI l) : clavierlaw18_StylePlain.f 13000 b0 b1 b2 b3 b4 b5 b6 u f b l = some true := by
  obtain ⟨t, ht, hft⟩ := few_is l 13000 (by decide)
  unfold clavierlaw18_StylePlain.f
  rw [awake18_is _ (by decide), Option.bind_some, ht, Option.bind_some]
  cases t with
  | false => rw [if_neg (by decide)]
  | true =>
    have hs := few_small (hft rfl)
    have h1 := Apply_is (b0, b1, b2, b3, b4, b5, b6, u, f, b) l hi (by have := hs.1; omega) 13000 (by have := hs.1; omega)
    have h2 := Apply_is (foldS (b0, b1, b2, b3, b4, b5, b6, u, f, b) l) [[0]] (fun r hr z hz => by simp at hr; subst hr; simp at hz; subst hz; decide) (by decide) 13000 (by decide)
    rw [show foldS (foldS (b0, b1, b2, b3, b4, b5, b6, u, f, b) l) [[0]] = (false, false, false, false, false, false, false, 0, -1, -1) from one_nought (foldS (b0, b1, b2, b3, b4, b5, b6, u, f, b) l)] at h2
    have hp := Params_is false false false false false false false 0 (-1) (-1) (by decide) (by decide)
    have hv : paramsV (false, false, false, false, false, false, false, 0, -1, -1) = [[0]] := by decide
    rw [hv] at hp
    have hT := Text_is [[0]] (fun r hr z hz => by simp at hr; subst hr; simp at hz; subst hz; decide) ⟨by decide, fun r hr => by simp at hr; subst hr; decide⟩ 13000 (by decide)
    have e0 : textP [[0]] = [48] := by
      have e0 : textL 0 = [48] := by rw [textL_of (by decide)]; exact decDigits_small (by decide)
      simp only [textP, partT, List.map_cons, List.map_nil, e0, Lib.join_one]
    rw [e0] at hT
    have hM : clavierref03_May.f 13000 1 0 (paramsV (b0, b1, b2, b3, b4, b5, b6, u, f, b)) ⟨#[]⟩ 109 ⟨#[]⟩ = some 0 := by
      refine seqMay_m _ (by have := paramsV_len (b0, b1, b2, b3, b4, b5, b6, u, f, b); omega) (fun r hr => ⟨?_, by have := paramsV_rows _ r hr; omega⟩) ?_ _ (by decide)
      · cases hm : mayL u f b with
        | true => exact (paramsV_fair b0 b1 b2 b3 b4 b5 b6 u f b hm).2 r hr
        | false =>
          have : paramsV (b0, b1, b2, b3, b4, b5, b6, u, f, b) = [] := by unfold paramsV; rw [if_neg (by simp [hm])]
          rw [this] at hr; cases hr
      · intro h
        cases hm : mayL u f b with
        | true =>
          have : paramsV (b0, b1, b2, b3, b4, b5, b6, u, f, b) = paramsL b0 b1 b2 b3 b4 b5 b6 u f b := by unfold paramsV; rw [if_pos hm]
          simp [this, paramsL]
        | false =>
          have : paramsV (b0, b1, b2, b3, b4, b5, b6, u, f, b) = [] := by unfold paramsV; rw [if_neg (by simp [hm])]
          rw [this] at h; simp at h
    rw [if_pos rfl, h1, Option.bind_some, h2, Option.bind_some, Params_is _ _ _ _ _ _ _ _ _ _ hf hb, Option.bind_some, if_pos rfl, if_pos (by decide), hp, Option.bind_some, hT, Option.bind_some, if_pos (by rw [Lib.toList_data]), hM, Option.bind_some, if_pos rfl, may_is, Option.bind_some]
    refine congrArg some ?_
    rw [beq_iff_eq]
    cases hm : mayL u f b with
    | true =>
      have := List.length_pos_iff.2 (paramsV_fair b0 b1 b2 b3 b4 b5 b6 u f b hm).1
      exact decide_eq_true (by omega)
    | false =>
      have : paramsV (b0, b1, b2, b3, b4, b5, b6, u, f, b) = [] := by unfold paramsV; rw [if_neg (by simp [hm])]
      rw [this]; rfl
end Go.Proofs.YtbaigfoioiklkaaDoor.G
end
