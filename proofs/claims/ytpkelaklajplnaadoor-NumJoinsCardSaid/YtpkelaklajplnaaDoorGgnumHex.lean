/- Go functions as Lean functions, and the proofs that the code comes to their answers. No condition but what each contract names. -/
import Derived.Test.YtpkelaklajplnaaDoorGx0
namespace Go.Proofs.YtpkelaklajplnaaDoor.G
open Go.RowKit Go.Proofs.YtpkelaklajplnaaDoorW.PrintWords Go.Proofs.YtpkelaklajplnaaDoorW.PrintLast Go.Proofs.YtpkelaklajplnaaDoorW.PrintMore
attribute [local go_sem] max2_int min2_int max_two min_two max_three min_three max_four min_four
set_option linter.unusedVariables false
set_option linter.unusedSimpArgs false

/-! ### num_Hex: function 16 (given) -/
def num_Hex.f (l0 : List Int) : Option (ByteArray) := if Kit.isB l0 then (if l0.length ≤ 1000000 then some ⟨(hexL (Kit.bytesI l0)).toArray⟩ else none) else none
theorem num_Hex.calls (A0 : Option Addr) (c0 : Nat) (l0 : List Int) (r : ByteArray) (w : World) (hr0 : Kd.C (Kd.int .u8) w A0 l0.length l0) (hc0 : l0.length ≤ c0) (h : num_Hex.f l0 = some r) :
    Calls Tryd.prog 16 #[.slice A0 l0.length c0] w fun e w' => e = .returned (.string r) ∧ Below w.heap.size w w' := by
  unfold num_Hex.f at h
  by_cases hb : Kit.isB l0 = true
  · by_cases hl : l0.length ≤ 1000000
    · rw [if_pos hb, if_pos hl] at h
      obtain rfl := Option.some.inj h
      exact hex_calls A0 l0.length c0 (Kit.bytesI l0) w (Kit.bytesI_length _) hl (Kit.reads_bytes hr0 hb)
    · rw [if_pos hb, if_neg hl] at h; cases h
  · rw [if_neg hb] at h; cases h

end Go.Proofs.YtpkelaklajplnaaDoor.G
