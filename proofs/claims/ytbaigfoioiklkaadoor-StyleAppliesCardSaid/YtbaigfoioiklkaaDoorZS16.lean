/- S: texts run together by shake.py: PuSh. -/
import Derived.ArgAppend
import Derived.Below
import Derived.BigQuiet
import Derived.ChangeOld
import Derived.ChangeSlices
import Derived.Deep.AppendLies
import Derived.Deep.CutBlock
import Derived.Deep.DeepCutAuto
import Derived.Deep.Draws
import Derived.Deep.LoopGhost
import Derived.Deep.Matrix
import Derived.Deep.OwnRows
import Derived.Deep.Quiet
import Derived.Deep.QuietTactic
import Derived.Deep.RegionHeld3
import Derived.KernelRfl
import Derived.Laws.AppendOwn
import Derived.Laws.AppendOwnNone
import Derived.Laws.BitsLemmas
import Derived.Laws.BytesArg
import Derived.Laws.Concat
import Derived.Laws.CopyRow
import Derived.Laws.IdiomCopy
import Derived.Laws.IdiomStrings
import Derived.Laws.MakeOwn
import Derived.Laws.OwnMore
import Derived.Laws.Rows
import Derived.Laws.Slices
import Derived.Laws.StructEq
import Derived.Lib.AppendIntMem
import Derived.Lib.AppendStr
import Derived.Lib.ConvBytes
import Derived.Lib.Hide
import Derived.Lib.ItoaLen
import Derived.Lib.ItoaNum
import Derived.Lib.Join
import Derived.Lib.LaidTab
import Derived.Lib.Strings
import Derived.MapKept
import Derived.Maps.AppendAt
import Derived.OpenShut
import Derived.Orders
import Derived.OrdersHeld
import Derived.Outline
import Derived.OwnWalk
import Derived.ProofKit
import Derived.RowKit
import Derived.RowKit3
import Derived.Shelf.LaysM
import Derived.Shelf.Strconv.Itoa0
import Derived.Shelf.Strconv.Itoa1
import Derived.Shelf.Strconv.Itoa2
import Derived.Shelf.Strconv.Itoa3
import Derived.Shelf.Strings.Builder1
import Derived.Shelf.Strings.Builder2
import Derived.Shelf.Strings.Builder2Cap
import Derived.Shelf.Strings.BuilderCap
import Derived.Shelf.Strings.BuilderF
import Derived.Shelf.Strings.BuilderK
import Derived.Shelf.Strings.OnBuilder
import Derived.ShutString
import Derived.SizedLaws
import Derived.Still
import Derived.Tactics
import Derived.Test.YtbaigfoioiklkaaDoorProg
import Derived.WalkKit
import Derived.WalkLawsBesides
import Derived.WalkSpells
import Derived.WideLaws
import Derived.Test.YtbaigfoioiklkaaDoorZS1
import Derived.Test.YtbaigfoioiklkaaDoorZS2
import Derived.Test.YtbaigfoioiklkaaDoorZS3
import Derived.Test.YtbaigfoioiklkaaDoorZS4
import Derived.Test.YtbaigfoioiklkaaDoorZS5
import Derived.Test.YtbaigfoioiklkaaDoorZS6
import Derived.Test.YtbaigfoioiklkaaDoorZS7
import Derived.Test.YtbaigfoioiklkaaDoorZS8
import Derived.Test.YtbaigfoioiklkaaDoorZS9
import Derived.Test.YtbaigfoioiklkaaDoorZS11
import Derived.Test.YtbaigfoioiklkaaDoorZS12
import Derived.Test.YtbaigfoioiklkaaDoorZS13
import Derived.Test.YtbaigfoioiklkaaDoorZS14
import Derived.Test.YtbaigfoioiklkaaDoorZS15
section
namespace Go.Proofs.YtbaigfoioiklkaaDoor.G
set_option linter.unusedVariables false
set_option linter.unusedSimpArgs false
open Go.RowKit Kit Go.Proofs.YtbaigfoioiklkaaDoorW.PrintWords
theorem few_small {l : List (List Int)} (h : l.length ≤ 40 ∧ ∀ r ∈ l, r.length ≤ 20) : Small l := ⟨by omega, fun r hr => by have := h.2 r hr; omega⟩
theorem styleApplies_pure (b0 b1 b2 b3 b4 b5 b6 : Bool) (u f b : Int) (l : List (List Int)) (hi : AllI l) : clavierlaw18_StyleApplies.f 13000 b0 b1 b2 b3 b4 b5 b6 u f b l = some true := by
  obtain ⟨t, ht, hft⟩ := few_is l 13000 (by decide)
  unfold clavierlaw18_StyleApplies.f
  rw [awake18_is _ (by decide), Option.bind_some, ht, Option.bind_some]
  cases t with
  | false => rw [if_neg (by decide)]
  | true =>
    have hs := few_small (hft rfl)
    have h1 := Apply_is (b0, b1, b2, b3, b4, b5, b6, u, f, b) l hi (by have := hs.1; omega) 13000 (by have := hs.1; omega)
    have h2 := refApply_is (b0, b1, b2, b3, b4, b5, b6, u, f, b) l hi (by have := hs.1; omega) 13000 (by have := hs.1; omega)
    rw [if_pos rfl, if_pos rfl, h1, Option.bind_some, h2, Option.bind_some, if_pos (by simp), Text_is _ hi hs _ (by decide), Option.bind_some, refText_is _ hi hs _ (by decide), Option.bind_some]
    simp
end Go.Proofs.YtbaigfoioiklkaaDoor.G
end
