/- The walk of num.Text. The condition: the table of the powers of ten reads as the program's text lays it. -/
import Derived.Test.YtpkelaklajplnaaDoorPNu
import Derived.Test.YtpkelaklajplnaaDoorKitF
import Derived.Test.YtpkelaklajplnaaDoorShelf
import Derived.Lib.LaidTab
import Derived.Lib.ItoaLen
import Derived.Laws.Concat
import Derived.Lib.AppendIntMem
namespace Go.Proofs.YtpkelaklajplnaaDoor
set_option linter.unusedVariables false
set_option linter.unusedSimpArgs false
open Go.RowKit Kit
attribute [local irreducible] wpList Calls wpQuiet

theorem below_grow (w : World) (k : Nat) (os : Array Obj) : Below w.heap.size w (Sort.grow (w.drewN k) os) := by
  refine ⟨rfl, rfl, rfl, ?_, fun i hi => ?_⟩
  · show w.heap.size ≤ (w.heap ++ os).size
    simp
  · show (w.heap ++ os)[i]? = w.heap[i]?
    rw [Array.getElem?_append_left hi]

/-- the table that Itoa reads -/
def Tab (w : World) : Prop := Lib.TabIs Tryd.prog w "internal/strconv.uint64pow10" .u64 Lib.pow10Tab

set_option maxHeartbeats 800000 in
theorem text_calls (n : Int) (h0 : -9223372036854775808 ≤ n) (h1 : n ≤ 9223372036854775807) (w : World) (htab : Tab w) :
    Calls Tryd.prog 12 #[.int .i64 n] w fun e w' => e = .returned (.string ⟨(textL n).toArray⟩) ∧ Below w.heap.size w w' := by
  have HT := Lib.hid htab
  clear htab
  by_cases hn : n < 0
  · have b1 : decide (n < 0) = true := decide_eq_true hn
    have H : Hid (textL n = []) := Lib.hid (by simp [textL, hn])
    go_enter Tryd.func12, Tryd.ntmps12
    go_wp2
    go_ret
    exact ⟨by rw [H.out]; rfl, Below.refl _ _⟩
  · have b1 : decide (n < 0) = false := decide_eq_false hn
    have H : Hid (textL n = Lib.itoa n) := Lib.hid (by simp [textL, Lib.itoa, hn])
    go_enter Tryd.func12, Tryd.ntmps12
    go_wp2_with (go_at_call 19; refine (Tryd.strconv_Itoa n h0 h1 _ HT.out).mono ?_; rintro e w' ⟨rfl, kN, os, rfl⟩)
    go_ret
    exact ⟨by rw [H.out]; rfl, below_grow _ _ _⟩

theorem textL_nat (i : Nat) : textL i = Lib.decDigits i := by
  have h : ¬ ((i : Int) < 0) := by omega
  simp [textL, h]

theorem text_small (i : Nat) (hi : i < 100) (w : World) :
    Calls Tryd.prog 12 #[.int .i64 (i : Int)] w fun e w' => e = .returned (.string ⟨(textL i).toArray⟩) ∧ w' = w := by
  have b1 : decide ((i : Int) < 0) = false := decide_eq_false (by omega)
  have H : Hid (textL i = Lib.decDigits i) := Lib.hid (textL_nat i)
  go_enter Tryd.func12, Tryd.ntmps12
  go_wp2_with (go_at_call 19; refine (Tryd.strconv_Itoa_small i hi _).mono ?_; rintro e w' ⟨rfl, rfl⟩)
  go_ret
  exact ⟨by rw [H.out]; rfl, rfl⟩

theorem Tab.below {w w' : World} (h : Tab w) (hb : Below w.heap.size w w') : Tab w' := Lib.tabBelow_of_tabIs h w' hb

end Go.Proofs.YtpkelaklajplnaaDoor
