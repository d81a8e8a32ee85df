/- Go functions as Lean functions, and the proofs that the code comes to their answers. No condition but what each contract names. -/
import Derived.Test.YtpkelaklajplnaaDoorGx0
namespace Go.Proofs.YtpkelaklajplnaaDoor.G
open Go.RowKit Go.Proofs.YtpkelaklajplnaaDoorW.PrintWords Go.Proofs.YtpkelaklajplnaaDoorW.PrintLast Go.Proofs.YtpkelaklajplnaaDoorW.PrintMore
attribute [local go_sem] max2_int min2_int max_two min_two max_three min_three max_four min_four
set_option linter.unusedVariables false
set_option linter.unusedSimpArgs false

/-! ### num_Text: function 12 (given) -/
def num_Text.f (a0 : Int) : Option (ByteArray) := if -9223372036854775808 ≤ a0 ∧ a0 ≤ 9223372036854775807 then some ⟨(textL a0).toArray⟩ else none
theorem num_Text.calls (a0 : Int) (r : ByteArray) (w : World) (hT : Tab w) (h : num_Text.f a0 = some r) :
    Calls Tryd.prog 12 #[.int .i64 a0] w fun e w' => e = .returned (.string r) ∧ Below w.heap.size w w' := by
  unfold num_Text.f at h
  by_cases hb : -9223372036854775808 ≤ a0 ∧ a0 ≤ 9223372036854775807
  · rw [if_pos hb] at h
    obtain rfl := Option.some.inj h
    exact text_calls a0 hb.1 hb.2 w hT
  · rw [if_neg hb] at h; cases h

end Go.Proofs.YtpkelaklajplnaaDoor.G
