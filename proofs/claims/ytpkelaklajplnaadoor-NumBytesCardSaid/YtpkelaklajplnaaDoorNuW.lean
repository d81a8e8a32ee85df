/- The walk of the statements' awake. No condition. -/
import Derived.Test.YtpkelaklajplnaaDoorNuU
import Derived.Test.YtpkelaklajplnaaDoorTab
import Derived.Lib.SlBytesConst
import Derived.Laws.Concat
namespace Go.Proofs.YtpkelaklajplnaaDoor
set_option linter.unusedVariables false
set_option linter.unusedSimpArgs false
open Go.RowKit Kit
attribute [local irreducible] wpList Calls wpQuiet

theorem below_step {a b c : World} (h : Below a.heap.size a b) (k : Below b.heap.size b c) : Below a.heap.size a c := h.trans (k.mono h.size)
theorem below_new (w : World) (o : Obj) : Below w.heap.size w (w.alloc o) := (Below.refl _ w).alloc (Nat.le_refl _) o

theorem dec40 : Lib.decDigits 40 = [52, 48] := by
  rw [Lib.decDigits, dif_neg (by decide), Lib.decDigits, dif_pos (by decide)]
  rfl

def takeB : List UInt8 := [50, 48, 48, 48, 48, 48, 48, 59]
def takeC : Array Value := #[.int .u8 50, .int .u8 48, .int .u8 48, .int .u8 48, .int .u8 48, .int .u8 48, .int .u8 48, .int .u8 59]

set_option maxRecDepth 100000 in
set_option maxHeartbeats 1600000 in
theorem awake01_calls (w : World) : Calls Tryd.prog 9 #[] w fun e w' => e = .returned (.bool true) ∧ Below w.heap.size w w' := by
  have kc := fun (W : World) (C : Array Value) (n c : Nat) => Lib.run_convert_bytes_const (P := Tryd.prog) W 22 5 C n c Tryd.underlying22 Tryd.underlying5
  have HTK := Lib.hid (take_calls (some ⟨w.heap.size, 0, none⟩) 8 8 takeB (w.alloc (.cells takeC 5 (8, 9))) rfl (by decide) (Reads.row (heap_alloc_new w _) (n := 8) rfl))
  rw [show takeF 0 takeB = (1114111, 7) by decide] at HTK
  have HTX : Hid (∀ W, Calls Tryd.prog 12 #[.int .i64 40] W fun e w' => e = .returned (.string ⟨#[52, 48]⟩) ∧ w' = W) := Lib.hid (fun W => by
    have h := text_small 40 (by decide) W
    rw [textL_nat, dec40] at h
    exact h)
  have HUH : Hid (∀ W, Calls Tryd.prog 14 #[.string ⟨#[52, 97, 52, 66]⟩] W (UnhexAns (some [74, 75]) W)) := Lib.hid (fun W => by
    have h := unhex_calls ⟨#[52, 97, 52, 66]⟩ W (by decide)
    rw [show unhexL (⟨#[52, 97, 52, 66]⟩ : ByteArray).data.toList = some [74, 75] by decide] at h
    exact h)
  have HHX : Hid (∀ W : World, Calls Tryd.prog 16 #[.slice (some ⟨W.heap.size, 0, none⟩) 2 2] (W.alloc (.cells #[.int .u8 65, .int .u8 66] 5 (2, 3))) fun e w' => e = .returned (.string ⟨#[52, 49, 52, 50]⟩) ∧ Below (W.alloc (.cells #[.int .u8 65, .int .u8 66] 5 (2, 3))).heap.size (W.alloc (.cells #[.int .u8 65, .int .u8 66] 5 (2, 3))) w') := Lib.hid (fun W => by
    have h := hex_calls (some ⟨W.heap.size, 0, none⟩) 2 2 [65, 66] (W.alloc (.cells #[.int .u8 65, .int .u8 66] 5 (2, 3))) rfl (by decide) (Reads.row (heap_alloc_new W _) (n := 2) rfl)
    rw [show hexL [65, 66] = [52, 49, 52, 50] by decide] at h
    exact h)
  have hB0 : Below w.heap.size w (w.alloc (.cells takeC 5 (8, 9))) := (Below.refl _ w).alloc (Nat.le_refl _) _
  go_enter Tryd.func9, Tryd.ntmps9
  go_wp2_with (first | (go_at_call 10; refine (HTK.out).mono ?_; rintro e w' ⟨rfl, rfl⟩) | (go_at_call 14; refine (HUH.out _).mono ?_; rintro e w1 ⟨v, rfl, hown, hb1⟩; obtain ⟨p, c, rfl, hr, hc, _⟩ := hown.reads; clear hown) | (go_at_call 12; refine (HTX.out _).mono ?_; rintro e w' ⟨rfl, hw'⟩; (have hw'' := hw'.symm); subst hw'') | (go_at_call 16; refine (HHX.out _).mono ?_; rintro e w3 ⟨rfl, hb3⟩; (have hcv := run_str_of (P := Tryd.prog) (src := 22) (dst := 9) Tryd.underlying22 Tryd.underlying5 Tryd.underlying9 (c := c) ((hr.below ((Below.refl _ _).alloc (Nat.le_refl _) _)).below hb3) (n := 2) rfl)))
  go_ret
  exact ⟨rfl, below_step (below_step (below_step hB0 hb1) (below_new _ _)) hb3⟩

end Go.Proofs.YtpkelaklajplnaaDoor
