/- P: texts run together by shake.py: PuU. -/
import Derived.ArgAppend
import Derived.Below
import Derived.BigQuiet
import Derived.Deep.AppendLies
import Derived.Deep.CutBlock
import Derived.Deep.DeepCutAuto
import Derived.Deep.Draws
import Derived.Deep.LoopGhost
import Derived.Deep.OwnRows
import Derived.Deep.Quiet
import Derived.Deep.QuietTactic
import Derived.Deep.RegionHeld3
import Derived.KernelRfl
import Derived.Laws.AppendOwn
import Derived.Laws.AppendOwnNone
import Derived.Laws.BitsLemmas
import Derived.Laws.BytesArg
import Derived.Laws.Concat
import Derived.Laws.CopyRow
import Derived.Laws.IdiomCopy
import Derived.Laws.IdiomStrings
import Derived.Laws.MakeOwn
import Derived.Laws.OwnMore
import Derived.Laws.Rows
import Derived.Laws.Slices
import Derived.Laws.StructEq
import Derived.Laws.Tables
import Derived.Lib.AppendIntMem
import Derived.Lib.AppendStr
import Derived.Lib.ConvBytes
import Derived.Lib.Hide
import Derived.Lib.ItoaLen
import Derived.Lib.ItoaNum
import Derived.Lib.LaidTab
import Derived.Lib.OthersKept
import Derived.Lib.TrimU
import Derived.MapKept
import Derived.Maps.AppendAt
import Derived.Orders
import Derived.OrdersHeld
import Derived.OrdersIn
import Derived.OwnWalk
import Derived.RangeFuncCalls
import Derived.RangeFuncNested
import Derived.RangeFuncWrites
import Derived.RowKit
import Derived.RowKit3
import Derived.Shelf.Bytes.SlEqualAll
import Derived.Shelf.Bytes.SlSearch0
import Derived.Shelf.Bytes.SlSmallAll
import Derived.Shelf.Bytes.Small
import Derived.Shelf.LaysM
import Derived.Shelf.Slices.Empties2
import Derived.Shelf.Slices.Equal
import Derived.Shelf.Small.Strs
import Derived.Shelf.Small.Utf8
import Derived.Shelf.Strconv.Itoa0
import Derived.Shelf.Strconv.Itoa1
import Derived.Shelf.Strconv.Itoa2
import Derived.Shelf.Strconv.Itoa3
import Derived.Shelf.Strings.Builder1
import Derived.Shelf.Strings.Builder2
import Derived.Shelf.Strings.Builder2Cap
import Derived.Shelf.Strings.BuilderCap
import Derived.Shelf.Strings.BuilderF
import Derived.Shelf.Strings.BuilderK
import Derived.Shelf.Strings.OnBuilder
import Derived.Shelf.Strings.Runes
import Derived.Shelf.Strings.Search1
import Derived.Still
import Derived.Tactics
import Derived.TacticsIn
import Derived.Test.YtcglbfpmcpammaaDoorProg
import Derived.WalkKit
import Derived.WideLaws
import Derived.Test.YtcglbfpmcpammaaDoorZP1
import Derived.Test.YtcglbfpmcpammaaDoorZP2
section
namespace Go.Proofs.YtcglbfpmcpammaaDoor
set_option linter.unusedVariables false
set_option linter.unusedSimpArgs false
theorem takeU_take {l : List UInt8} {r n : Nat} (h : takeU l = (r, n)) (hn : 0 < n) : takeU (l.take n) = (r, n) := by
  rcases takeU_cases l with ⟨k, k1, k4, kf, kno, ke⟩ | ⟨_, he⟩
  · rw [h] at ke
    cases ke
    have hk := (fitsU_spec kf).1
    have hl : (l.take n).length = n := by simp; omega
    have e := fun m (a : 1 ≤ m) (b : m ≤ n) => fitsU_app (l.take n) (l.drop n) m a (by omega) (by omega)
    rw [List.take_append_drop] at e
    rw [takeU_of (l := l.take n) k1 k4 (by rw [← (e n k1 (Nat.le_refl _)).1]; exact kf) (fun m a b => by rw [← (e m a (by omega)).1]; exact kno m a b), ← (e n k1 (Nat.le_refl _)).2]
  · rw [h] at he
    cases he
    omega
theorem Cl.of_clean : ∀ (f : Nat) (l : List UInt8), l.length ≤ f → Cl (cleanL l)
  | 0, l, h => by
    have : l = [] := List.eq_nil_of_length_eq_zero (by omega)
    subst this; exact .nil
  | f + 1, l, h => by
    by_cases hl : l = []
    · subst hl; exact .nil
    · have h0 : 0 < l.length := List.length_pos_iff.2 hl
      rw [cleanL_step hl]
      obtain ⟨⟨r, n⟩, ht⟩ : ∃ t, takeU l = t := ⟨_, rfl⟩
      rw [ht]
      have ih := Cl.of_clean f (l.drop (max n 1)) (by simp; omega)
      by_cases hn : 0 < n
      · by_cases hr : cleanR r = true
        · simp only [decide_eq_true hn, hr, Bool.and_self, if_true]
          have hs := takeU_spec ht
          refine .cons (r := r) (by simp; omega) ?_ hr ih
          rw [takeU_take ht hn]
          congr 1
          simp; omega
        · simp only [hr, Bool.and_false, Bool.false_eq_true, if_false, List.nil_append]
          exact ih
      · simp only [decide_eq_false hn, Bool.false_and, Bool.false_eq_true, if_false, List.nil_append]
        exact ih
theorem cl_clean (l : List UInt8) : Cl (cleanL l) := Cl.of_clean _ l (Nat.le_refl _)
end Go.Proofs.YtcglbfpmcpammaaDoor
end
