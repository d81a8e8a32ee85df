/- M: texts run together by shake.py: PuQ RpW. -/
import Derived.ArgAppend
import Derived.Below
import Derived.BigQuiet
import Derived.ChangeOld
import Derived.ChangeSlices
import Derived.Deep.AppendLies
import Derived.Deep.CutBlock
import Derived.Deep.DeepCutAuto
import Derived.Deep.Draws
import Derived.Deep.LoopGhost
import Derived.Deep.Matrix
import Derived.Deep.OwnRows
import Derived.Deep.Quiet
import Derived.Deep.QuietTactic
import Derived.Deep.RegionHeld3
import Derived.Ground.Names2Prog
import Derived.Ground.SlgnProg
import Derived.KernelRfl
import Derived.Laws.AppendOwn
import Derived.Laws.AppendOwnNone
import Derived.Laws.BitsLemmas
import Derived.Laws.BytesArg
import Derived.Laws.Concat
import Derived.Laws.CopyRow
import Derived.Laws.IdiomCopy
import Derived.Laws.IdiomStrings
import Derived.Laws.MakeOwn
import Derived.Laws.OwnMore
import Derived.Laws.Rows
import Derived.Laws.Slices
import Derived.Laws.StructEq
import Derived.Laws.Tables
import Derived.Lib.AppendIntMem
import Derived.Lib.AppendStr
import Derived.Lib.ConvBytes
import Derived.Lib.Hide
import Derived.Lib.ItoaLen
import Derived.Lib.ItoaNum
import Derived.Lib.Join
import Derived.Lib.LaidTab
import Derived.Lib.Strings
import Derived.MapKept
import Derived.Maps.AppendAt
import Derived.OpenShut
import Derived.Orders
import Derived.OrdersHeld
import Derived.Outline
import Derived.OwnWalk
import Derived.ProofKit
import Derived.RowKit
import Derived.RowKit3
import Derived.Shelf.LaysM
import Derived.Shelf.Slices.Clone
import Derived.Shelf.SlicesE.Clone
import Derived.Shelf.Strconv.Itoa0
import Derived.Shelf.Strconv.Itoa1
import Derived.Shelf.Strconv.Itoa2
import Derived.Shelf.Strconv.Itoa3
import Derived.Shelf.Strings.Builder1
import Derived.Shelf.Strings.Builder2
import Derived.Shelf.Strings.Builder2Cap
import Derived.Shelf.Strings.BuilderCap
import Derived.Shelf.Strings.BuilderF
import Derived.Shelf.Strings.BuilderK
import Derived.Shelf.Strings.OnBuilder
import Derived.ShutString
import Derived.SizedLaws
import Derived.Still
import Derived.Tactics
import Derived.Test.YtopcleljecdkkaaDoorProg
import Derived.WalkKit
import Derived.WalkLawsBesides
import Derived.WalkSpells
import Derived.WideLaws
import Derived.Test.YtopcleljecdkkaaDoorZM1
import Derived.Test.YtopcleljecdkkaaDoorZM2
import Derived.Test.YtopcleljecdkkaaDoorZM3
import Derived.Test.YtopcleljecdkkaaDoorZM4
import Derived.Test.YtopcleljecdkkaaDoorZM5
import Derived.Test.YtopcleljecdkkaaDoorZM6
import Derived.Test.YtopcleljecdkkaaDoorZM7
import Derived.Test.YtopcleljecdkkaaDoorZM8
section
namespace Go.Proofs.YtopcleljecdkkaaDoor.G
set_option linter.unusedVariables false
set_option linter.unusedSimpArgs false
open Go.RowKit Go.Proofs.YtopcleljecdkkaaDoorW.PrintWords
theorem rd_int (l : List Int) (i : Nat) (h : i < l.length) : rd l (i : Int) = l[i] := by
  unfold rd
  simp [List.getD, h]
theorem rd_rowQ (l : List (List Int)) (i : Nat) (h : i < l.length) : rd_L1 l (i : Int) = l[i] := by
  unfold rd_L1
  simp [List.getD, h]
theorem drop_head {α : Type} (l : List α) (i : Nat) (h : i < l.length) : l.drop i = l[i] :: l.drop (i + 1) := List.drop_eq_getElem_cons h
theorem Ints_loop (a b : List Int) (hl : a.length = b.length) (ha : a.length ≤ 4611686018427387904) : ∀ d i k, i + d = a.length → d < k → clavierref02_Ints.l0 k a b (i : Int) = some (decide (a.drop i = b.drop i)) := by
  intro d
  induction d with
  | zero =>
    intro i k hi hk
    obtain ⟨k, rfl⟩ : ∃ m, k = m + 1 := ⟨k - 1, by omega⟩
    rw [clavierref02_Ints.l0, if_neg (by omega), List.drop_eq_nil_of_le (by omega), List.drop_eq_nil_of_le (by omega)]
    simp
  | succ d ih =>
    intro i k hi hk
    obtain ⟨k, rfl⟩ : ∃ m, k = m + 1 := ⟨k - 1, by omega⟩
    have hia : i < a.length := by omega
    have hib : i < b.length := by omega
    have hw : wrap64 ((i : Int) + 1) = ((i + 1 : Nat) : Int) := by unfold wrap64; omega
    rw [clavierref02_Ints.l0, if_pos (by omega), if_pos (by omega), if_pos (by omega), rd_int a i hia, rd_int b i hib, drop_head a i hia, drop_head b i hib]
    by_cases he : a[i] = b[i]
    · rw [if_pos he, hw, ih (i + 1) k (by omega) (by omega), he]
      simp only [List.cons.injEq, true_and]
    · rw [if_neg he]
      simp only [List.cons.injEq, he, false_and, decide_false]
theorem Ints_is (a b : List Int) (ha : a.length ≤ 4611686018427387904) (k : Nat) (hk : a.length < k) : clavierref02_Ints.f k a b = some (decide (a = b)) := by
  unfold clavierref02_Ints.f
  by_cases hl : a.length = b.length
  · rw [if_pos (by omega)]
    have := Ints_loop a b hl ha a.length 0 k (by omega) hk
    simpa using this
  · rw [if_neg (by omega)]
    have : a ≠ b := fun h => hl (by rw [h])
    simp [this]
def wide (l : List (List Int)) (m : Nat) : Prop := ∀ r ∈ l, r.length ≤ m
theorem Same_loop (k1 k2 : Int) (a b : List (List Int)) (x1 x2 x3 y1 y2 y3 : ByteArray) (p1 p2 q1 q2 f1 f2 : Int) (m : Nat) (hm : m ≤ 4611686018427387904) (hw : wide a m) (hl : a.length = b.length) (ha : a.length ≤ 4611686018427387904) : ∀ d i k, i + d = a.length → d + m + 1 < k →
    clavierref03_Same.l0 k (i : Int) k1 p1 a x1 f1 x2 k2 p2 b y1 f2 y2 = some (decide (a.drop i = b.drop i)) := by
  intro d
  induction d with
  | zero =>
    intro i k hi hk
    obtain ⟨k, rfl⟩ : ∃ m, k = m + 1 := ⟨k - 1, by omega⟩
    rw [clavierref03_Same.l0, if_neg (by omega), List.drop_eq_nil_of_le (by omega), List.drop_eq_nil_of_le (by omega)]
    simp
  | succ d ih =>
    intro i k hi hk
    obtain ⟨k, rfl⟩ : ∃ m, k = m + 1 := ⟨k - 1, by omega⟩
    have hia : i < a.length := by omega
    have hib : i < b.length := by omega
    have hwi : wrap64 ((i : Int) + 1) = ((i + 1 : Nat) : Int) := by unfold wrap64; omega
    have hr := hw _ (List.getElem_mem hia)
    rw [clavierref03_Same.l0, if_pos (by omega), if_pos (by omega), if_pos (by omega), rd_rowQ a i hia, rd_rowQ b i hib, Ints_is _ _ (by omega) k (by omega), Option.bind_some, drop_head a i hia, drop_head b i hib]
    by_cases he : a[i] = b[i]
    · rw [if_pos (by simp [he]), hwi, ih (i + 1) k (by omega) (by omega), he]
      simp only [List.cons.injEq, true_and]
    · rw [if_neg (by simp [he])]
      simp only [List.cons.injEq, he, false_and, decide_false]
theorem bytes_eq (a b : ByteArray) : (a.toList = b.toList) = (a = b) := by
  rw [Lib.toList_data, Lib.toList_data, eq_iff_iff]
  constructor
  · intro h
    cases a; cases b
    simp only [ByteArray.mk.injEq]
    exact Array.ext' h
  · intro h; rw [h]
theorem Same_is (k1 p1 f1 k2 p2 f2 : Int) (a b : List (List Int)) (i1 d1 i2 d2 : ByteArray) (m : Nat) (hm : m ≤ 4611686018427387904) (hw : wide a m) (ha : a.length ≤ 4611686018427387904) (hb : b.length ≤ 4611686018427387904) (k : Nat) (hk : a.length + m + 3 ≤ k) :
    clavierref03_Same.f k k1 p1 a i1 f1 d1 k2 p2 b i2 f2 d2 = some (decide (k1 = k2 ∧ p1 = p2 ∧ i1 = i2 ∧ f1 = f2 ∧ d1 = d2 ∧ a = b)) := by
  obtain ⟨k, rfl⟩ : ∃ m, k = m + 1 := ⟨k - 1, by omega⟩
  have hj : ∀ c : Bool, c = true → clavierref03_Same.j0 (k + 1) c k1 p1 a i1 f1 d1 k2 p2 b i2 f2 d2 = some false := by
    intro c hc; rw [clavierref03_Same.j0, if_pos hc]
  unfold clavierref03_Same.f
  by_cases h1 : k1 = k2
  · rw [if_pos h1]
    by_cases h2 : p1 = p2
    · rw [if_pos h2]
      by_cases h3 : i1 = i2
      · rw [if_pos (by rw [bytes_eq]; exact h3)]
        by_cases h4 : f1 = f2
        · rw [if_pos h4]
          by_cases h5 : d1 = d2
          · rw [if_pos (by rw [bytes_eq]; exact h5)]
            by_cases hl : a.length = b.length
            · rw [clavierref03_Same.j0, if_neg (by simp [hl])]
              have := Same_loop k1 k2 a b i1 d1 d1 i2 d2 d2 p1 p2 0 0 f1 f2 m hm hw hl ha a.length 0 k (by omega) (by omega)
              rw [show (0 : Int) = ((0 : Nat) : Int) from rfl, this]
              simp [h1, h2, h3, h4, h5]
            · rw [hj _ (by simp; omega)]
              have : a ≠ b := fun h => hl (by rw [h])
              simp [this]
          · rw [if_neg (by rw [bytes_eq]; exact h5), hj _ rfl]
            simp [h5]
        · rw [if_neg h4, hj _ rfl]
          simp [h4]
      · rw [if_neg (by rw [bytes_eq]; exact h3), hj _ rfl]
        simp [h3]
    · rw [if_neg h2, hj _ rfl]
      simp [h2]
  · rw [if_neg h1, hj _ rfl]
    simp [h1]
end Go.Proofs.YtopcleljecdkkaaDoor.G
end
section
namespace Go.Proofs.YtopcleljecdkkaaDoor
set_option linter.unusedVariables false
set_option linter.unusedSimpArgs false
set_option maxRecDepth 100000
open Go.RowKit Kit Go.Proofs.YtopcleljecdkkaaDoorW.PrintWords G
attribute [local irreducible] wpList Calls
theorem same_at {q1 q2 : Sq} {b : Bool} {k : Nat} {w : World} (h : clavierref03_Same.f k q1.kind q1.priv q1.rows q1.inter q1.fin q1.data q2.kind q2.priv q2.rows q2.inter q2.fin q2.data = some b) : SameIs q1 q2 b w := by
  intro W B1 B2 v1 v2 hb h1 h2
  obtain ⟨u1, rfl, s1⟩ := h1
  obtain ⟨u2, rfl, s2⟩ := h2
  obtain ⟨A1, c1, rfl, l1, r1⟩ := Kd.S_reads s1
  obtain ⟨A2, c2, rfl, l2, r2⟩ := Kd.S_reads s2
  exact (clavierref03_Same.calls k _ _ A1 c1 q1.rows _ _ _ _ _ A2 c2 q2.rows _ _ _ b W r1 l1 r2 l2 h).mono fun e w' h => ⟨h.1, by first | exact h.2 | exact h.2.below⟩
theorem same_by (q1 q2 : Sq) (w : World) (m : Nat) (hm : m ≤ 4611686018427387904) (hw : wide q1.rows m) (ha : q1.rows.length ≤ 4611686018427387904) (hb : q2.rows.length ≤ 4611686018427387904) : SameIs q1 q2 (decide (q1 = q2)) w := by
  have h := Same_is q1.kind q1.priv q1.fin q2.kind q2.priv q2.fin q1.rows q2.rows q1.inter q1.data q2.inter q2.data m hm hw ha hb (q1.rows.length + m + 3) (Nat.le_refl _)
  refine same_at (k := q1.rows.length + m + 3) (h.trans ?_)
  congr 1
  obtain ⟨a1, a2, a3, a4, a5, a6⟩ := q1
  obtain ⟨b1, b2, b3, b4, b5, b6⟩ := q2
  rw [decide_eq_decide, Sq.mk.injEq]
  constructor
  · rintro ⟨h1, h2, h3, h4, h5, h6⟩; exact ⟨h1, h2, h6, h3, h4, h5⟩
  · rintro ⟨h1, h2, h3, h4, h5, h6⟩; exact ⟨h1, h2, h4, h5, h6, h3⟩
end Go.Proofs.YtopcleljecdkkaaDoor
end
