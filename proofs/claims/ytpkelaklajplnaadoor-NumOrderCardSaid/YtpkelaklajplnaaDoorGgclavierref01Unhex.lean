/- Go functions as Lean functions, and the proofs that the code comes to their answers. No condition but what each contract names. -/
import Derived.Test.YtpkelaklajplnaaDoorGx0
namespace Go.Proofs.YtpkelaklajplnaaDoor.G
open Go.RowKit Go.Proofs.YtpkelaklajplnaaDoorW.PrintWords Go.Proofs.YtpkelaklajplnaaDoorW.PrintLast Go.Proofs.YtpkelaklajplnaaDoorW.PrintMore
attribute [local go_sem] max2_int min2_int max_two min_two max_three min_three max_four min_four
set_option linter.unusedVariables false
set_option linter.unusedSimpArgs false

/-! ### clavierref01_Unhex: function 15 (given) -/
def clavierref01_Unhex.f (a0 : ByteArray) : Option (List Int × Bool) := if a0.size ≤ 1000000 then some (Kit.natsB ((unhexL a0.data.toList).getD []), (unhexL a0.data.toList).isSome) else none
theorem clavierref01_Unhex.calls (a0 : ByteArray) (r1 : List Int) (r2 : Bool) (w : World) (h : clavierref01_Unhex.f a0 = some (r1, r2)) :
    Calls Tryd.prog 15 #[.string a0] w fun e w' => ∃ v0_ : Value, e = .returned (.tuple #[v0_, .bool r2]) ∧ Kd.R (Kd.int .u8) 5 w' w.heap.size (fun _ => True) v0_ r1 ∧ Below w.heap.size w w' := by
  unfold clavierref01_Unhex.f at h
  by_cases hl : a0.size ≤ 1000000
  · rw [if_pos hl] at h
    simp only [Option.some.injEq, Prod.mk.injEq] at h
    obtain ⟨rfl, rfl⟩ := h
    refine (refUnhex_calls a0 w hl).mono fun e w' h => ?_
    obtain ⟨v, h1, h2, h3⟩ := h
    exact ⟨v, h1, Kit.R_bytes h2, h3⟩
  · rw [if_neg hl] at h; cases h

end Go.Proofs.YtpkelaklajplnaaDoor.G
