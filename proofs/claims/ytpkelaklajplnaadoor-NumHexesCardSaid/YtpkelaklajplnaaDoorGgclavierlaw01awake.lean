/- Go functions as Lean functions, and the proofs that the code comes to their answers. No condition but what each contract names. -/
import Derived.Test.YtpkelaklajplnaaDoorGx0
namespace Go.Proofs.YtpkelaklajplnaaDoor.G
open Go.RowKit Go.Proofs.YtpkelaklajplnaaDoorW.PrintWords Go.Proofs.YtpkelaklajplnaaDoorW.PrintLast Go.Proofs.YtpkelaklajplnaaDoorW.PrintMore
attribute [local go_sem] max2_int min2_int max_two min_two max_three min_three max_four min_four
set_option linter.unusedVariables false
set_option linter.unusedSimpArgs false

/-! ### clavierlaw01_awake: function 9 (given) -/
def clavierlaw01_awake.f  : Option (Bool) := some true
theorem clavierlaw01_awake.calls  (r : Bool) (w : World) (h : clavierlaw01_awake.f  = some r) :
    Calls Tryd.prog 9 #[] w fun e w' => e = .returned (.bool r) ∧ Below w.heap.size w w' := by
  obtain rfl : true = r := Option.some.inj h
  exact awake01_calls w

end Go.Proofs.YtpkelaklajplnaaDoor.G
