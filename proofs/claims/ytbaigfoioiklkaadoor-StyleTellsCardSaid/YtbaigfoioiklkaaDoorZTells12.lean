/- Tells: texts run together by shake.py: PuSe. -/
import Derived.Test.YtbaigfoioiklkaaDoorZTells10
import Derived.Test.YtbaigfoioiklkaaDoorZTells11
section
namespace Go.Proofs.YtbaigfoioiklkaaDoor.G
set_option linter.unusedVariables false
set_option linter.unusedSimpArgs false
open Go.RowKit Kit Go.Proofs.YtbaigfoioiklkaaDoorW.PrintWords
theorem styleTells_pure (b0 b1 b2 b3 b4 b5 b6 : Bool) (u f b : Int) (hf : -9223372036854775808 ≤ f) (hb : -9223372036854775808 ≤ b) : clavierlaw18_StyleTells.f 13000 b0 b1 b2 b3 b4 b5 b6 u f b = some true := by
  have hs := paramsV_small (b0, b1, b2, b3, b4, b5, b6, u, f, b)
  have hi := paramsV_in (b0, b1, b2, b3, b4, b5, b6, u, f, b)
  unfold clavierlaw18_StyleTells.f
  rw [awake18_is _ (by decide), Option.bind_some, Params_is _ _ _ _ _ _ _ _ _ _ hf hb, Option.bind_some, refParams_is _ _ _ _ _ _ _ _ _ _ _ (by decide), Option.bind_some, if_pos rfl, may_is, Option.bind_some, refMay_is, Option.bind_some, if_pos (beq_self_eq_true _), same_is _ _ hs (by have := hs.1; omega) _ (by decide), Option.bind_some, if_pos (by simp), Text_is _ hi hs _ (by decide), Option.bind_some, refText_is _ hi hs _ (by decide), Option.bind_some]
  simp
end Go.Proofs.YtbaigfoioiklkaaDoor.G
end
