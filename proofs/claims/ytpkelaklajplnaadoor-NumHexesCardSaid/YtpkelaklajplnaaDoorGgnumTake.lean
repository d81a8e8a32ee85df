/- Go functions as Lean functions, and the proofs that the code comes to their answers. No condition but what each contract names. -/
import Derived.Test.YtpkelaklajplnaaDoorGx0
namespace Go.Proofs.YtpkelaklajplnaaDoor.G
open Go.RowKit Go.Proofs.YtpkelaklajplnaaDoorW.PrintWords Go.Proofs.YtpkelaklajplnaaDoorW.PrintLast Go.Proofs.YtpkelaklajplnaaDoorW.PrintMore
attribute [local go_sem] max2_int min2_int max_two min_two max_three min_three max_four min_four
set_option linter.unusedVariables false
set_option linter.unusedSimpArgs false

/-! ### num_Take: function 10 (given) -/
def num_Take.f (l0 : List Int) : Option (Int × Int) := if Kit.isB l0 then (if l0.length ≤ 4611686018427387904 then some ((takeF 0 (Kit.bytesI l0)).1, ((takeF 0 (Kit.bytesI l0)).2 : Int)) else none) else none
theorem num_Take.calls (A0 : Option Addr) (c0 : Nat) (l0 : List Int) (r1 : Int) (r2 : Int) (w : World) (hr0 : Kd.C (Kd.int .u8) w A0 l0.length l0) (hc0 : l0.length ≤ c0) (h : num_Take.f l0 = some (r1, r2)) :
    Calls Tryd.prog 10 #[.slice A0 l0.length c0] w fun e w' => e = .returned (.tuple #[.int .i64 r1, .int .i64 r2]) ∧ Drawn0 w w' := by
  unfold num_Take.f at h
  by_cases hb : Kit.isB l0 = true
  · by_cases hl : l0.length ≤ 4611686018427387904
    · rw [if_pos hb, if_pos hl] at h
      simp only [Option.some.injEq, Prod.mk.injEq] at h
      obtain ⟨rfl, rfl⟩ := h
      exact (take_calls A0 l0.length c0 (Kit.bytesI l0) w (Kit.bytesI_length _) hl (Kit.reads_bytes hr0 hb)).mono fun _ _ h => ⟨h.1, by rw [h.2]; exact Drawn0.refl _⟩
    · rw [if_pos hb, if_neg hl] at h; cases h
  · rw [if_neg hb] at h; cases h

end Go.Proofs.YtpkelaklajplnaaDoor.G
