/- The walk of NumTexts. The condition: the table of the powers of ten reads as the program's text lays it. -/
import Derived.Test.YtpkelaklajplnaaDoorNuH
import Derived.Lib.AppendIntMem
namespace Go.Proofs.YtpkelaklajplnaaDoor
set_option linter.unusedVariables false
set_option linter.unusedSimpArgs false
open Go.RowKit Kit
attribute [local irreducible] wpList Calls wpQuiet

theorem Tab.below {w w' : World} (h : Tab w) (hb : Below w.heap.size w w') : Tab w' := Lib.tabBelow_of_tabIs h w' hb

set_option maxRecDepth 100000 in
set_option maxHeartbeats 1600000 in
theorem numTexts_calls (n : Int) (h0 : -9223372036854775808 ≤ n) (h1 : n ≤ 9223372036854775807) (p : Option Addr) (m c : Nat) (l : List UInt8) (hl : l.length = m) (w : World) (hr : Reads w p (l.map byV)) (htab : Tab w) :
    Calls Tryd.prog 3 #[.int .i64 n, .slice p m c] w fun e w' => e = .returned (.bool true) ∧ Below w.heap.size w w' := by
  have HL := Lib.hid hl
  have HR := Lib.hid hr
  have HT := Lib.hid htab
  clear hl hr htab
  have HB := Below.refl w.heap.size w
  obtain ⟨st, hst⟩ : ∃ st : ByteArray, st = ⟨(textL n).toArray⟩ := ⟨_, rfl⟩
  have HX : Hid (∀ W, Tab W → Calls Tryd.prog 12 #[.int .i64 n] W fun e w' => e = .returned (.string st) ∧ Below W.heap.size W w') := Lib.hid (fun W h => by rw [hst]; exact text_calls n h0 h1 W h)
  have HY : Hid (∀ W, Calls Tryd.prog 13 #[.int .i64 n] W fun e w' => e = .returned (.string st) ∧ Below W.heap.size W w') := Lib.hid (fun W => by rw [hst]; exact refText_calls n h1 W)
  obtain ⟨x, hx⟩ : ∃ x, x = (takeF 0 l).1 := ⟨_, rfl⟩
  obtain ⟨y, hy⟩ : ∃ y, y = (takeF 0 l).2 := ⟨_, rfl⟩
  have HU : Hid (m ≤ 100 → ∀ W, Reads W p (l.map byV) → Calls Tryd.prog 10 #[.slice p m c] W fun e w' => e = .returned (.tuple #[.int .i64 x, .int .i64 (y : Nat)]) ∧ w' = W) := Lib.hid (fun h100 W h => by rw [hx, hy]; exact take_calls p m c l W HL.out (by omega) h)
  have HV : Hid (m ≤ 100 → ∀ W, Reads W p (l.map byV) → Calls Tryd.prog 11 #[.slice p m c] W fun e w' => e = .returned (.tuple #[.int .i64 x, .int .i64 (y : Nat)]) ∧ w' = W) := Lib.hid (fun h100 W h => by rw [hx, hy]; exact refTake_calls p m c l W HL.out (by omega) h)
  clear hst hx hy
  by_cases hlong : 100 < m
  · have b1 : decide ((100 : Int) < (m : Int)) = true := decide_eq_true (by omega)
    go_enter Tryd.func3, Tryd.ntmps3
    go_wp2_with (go_at_call 9; refine (awake01_calls _).mono ?_; rintro e wN ⟨rfl, hbN⟩; have HBN := below_step HB hbN; clear HB hbN; have HB := HBN; clear HBN)
    go_ret
    exact ⟨rfl, HB⟩
  · have b1 : decide ((100 : Int) < (m : Int)) = false := decide_eq_false (by omega)
    have h100 : m ≤ 100 := by omega
    clear hlong
    go_enter Tryd.func3, Tryd.ntmps3
    go_wp2_with (first | (go_at_call 9; refine (awake01_calls _).mono ?_; rintro e wN ⟨rfl, hbN⟩; have HBN := below_step HB hbN; clear HB hbN; have HB := HBN; clear HBN) | (go_at_call 10; refine (HU.out h100 _ (HR.out.below HB)).mono ?_; rintro e wN ⟨rfl, hwN⟩; have hwM := hwN.symm; subst hwM) | (go_at_call 11; refine (HV.out h100 _ (HR.out.below HB)).mono ?_; rintro e wN ⟨rfl, hwN⟩; have hwM := hwN.symm; subst hwM) | (go_at_call 12; refine (HX.out _ (HT.out.below HB)).mono ?_; rintro e wN ⟨rfl, hbN⟩; have HBN := below_step HB hbN; clear HB hbN; have HB := HBN; clear HBN) | (go_at_call 13; refine (HY.out _).mono ?_; rintro e wN ⟨rfl, hbN⟩; have HBN := below_step HB hbN; clear HB hbN; have HB := HBN; clear HBN))
    go_ret
    exact ⟨rfl, HB⟩

end Go.Proofs.YtpkelaklajplnaaDoor
