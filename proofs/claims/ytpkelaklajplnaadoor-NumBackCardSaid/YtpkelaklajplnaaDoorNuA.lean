/- The walks of layer 1 (num): the closures, Take, and the reference's Take. No condition but the sizes of what is read. -/
import Derived.Test.YtpkelaklajplnaaDoorProg
import Derived.Test.YtpkelaklajplnaaDoorPNu
import Derived.Test.YtpkelaklajplnaaDoorKitF
import Derived.WalkKit
import Derived.WalkSpells
import Derived.WalkLawsBesides
import Derived.Lib.Hide
import Derived.Outline
import Derived.Deep.Quiet
namespace Go.Proofs.YtpkelaklajplnaaDoor
set_option linter.unusedVariables false
set_option linter.unusedSimpArgs false
open Go.RowKit Kit
attribute [local irreducible] wpList Calls wpQuiet

theorem retB {a b : Bool} (h : a = b) : Ending.returned (.bool a) = .returned (.bool b) := by rw [h]
theorem retI {k : IntKind} {a b : Int} (h : a = b) : Ending.returned (.int k a) = .returned (.int k b) := by rw [h]

theorem figure_calls (c : UInt8) (w : World) : Calls Tryd.prog 18 #[.int .u8 (c.toNat : Int)] w fun e w' => e = .returned (.bool (figU c)) ∧ w' = w := by
  have hc := c.toNat_lt
  by_cases h1 : 48 ≤ c.toNat
  · by_cases h2 : c.toNat ≤ 57
    · have b1 : decide ((48 : Int) ≤ (c.toNat : Int)) = true := decide_eq_true (by omega)
      have b2 : decide ((c.toNat : Int) ≤ 57) = true := decide_eq_true (by omega)
      have HF : Hid (figU c = true) := Lib.hid (by simp [figU, h1, h2])
      go_enter Tryd.func18, Tryd.ntmps18
      go_wp2
      go_ret
      exact ⟨retB HF.out.symm, rfl⟩
    · have b1 : decide ((48 : Int) ≤ (c.toNat : Int)) = true := decide_eq_true (by omega)
      have b2 : decide ((c.toNat : Int) ≤ 57) = false := decide_eq_false (by omega)
      have HF : Hid (figU c = false) := Lib.hid (by simp [figU, h1]; omega)
      go_enter Tryd.func18, Tryd.ntmps18
      go_wp2
      go_ret
      exact ⟨retB HF.out.symm, rfl⟩
  · have b1 : decide ((48 : Int) ≤ (c.toNat : Int)) = false := decide_eq_false (by omega)
    have HF : Hid (figU c = false) := Lib.hid (by simp [figU]; omega)
    go_enter Tryd.func18, Tryd.ntmps18
    go_wp2
    go_ret
    exact ⟨retB HF.out.symm, rfl⟩

set_option maxHeartbeats 800000 in
theorem take_calls (p : Option Addr) (n c : Nat) (l : List UInt8) (w : World) (hl : l.length = n) (hm : n ≤ 4611686018427387904) (hr : Reads w p (l.map byV)) :
    Calls Tryd.prog 10 #[.slice p n c] w fun e w' => e = .returned (.tuple #[.int .i64 (takeF 0 l).1, .int .i64 ((takeF 0 l).2 : Nat)]) ∧ w' = w := by
  have HL := Lib.hid hl
  have HR := Lib.hid hr
  clear hl hr
  go_enter Tryd.func10, Tryd.ntmps10
  go_wp2
  go_loop [5, 9] (fun m i => ∃ (k : Nat) (x : Int), k ≤ n ∧ i = .int .i64 k ∧ m = .int .i64 x ∧ 0 ≤ x ∧ x ≤ 1114111 ∧ Hid (TakeAt l k x)) (fun _ i => n - (intOf i).toNat)
  case atStart => exact ⟨0, 0, Nat.zero_le _, rfl, rfl, by decide, by decide, Lib.hid (TakeAt.start l)⟩
  case round =>
    obtain ⟨k, x, hk, rfl, rfl, hx0, hx1, HT⟩ := hrel
    by_cases hlt : k < n
    · obtain ⟨b, o, rfl, hcell⟩ := HR.out.byte (k := k) (by rw [HL.out]; exact hlt)
      cases hf : figU (l[k]?.getD 0)
      · have H2 := Lib.hid (HT.out.stop (by rw [HL.out]; exact hlt) hf)
        have HC := figure_calls (l[k]?.getD 0)
        rw [hf] at HC
        have HC2 := Lib.hid HC
        clear HC hf
        go_wp2_with (go_at_call 18; refine (HC2.out _).mono ?_; rintro e w' ⟨rfl, rfl⟩)
        go_ret2
        exact ⟨by rw [H2.out]; rfl, rfl⟩
      · have H2 := Lib.hid (HT.out.step (by rw [HL.out]; exact hlt) hf)
        have HC := figure_calls (l[k]?.getD 0)
        rw [hf] at HC
        have HC2 := Lib.hid HC
        obtain ⟨hn0, hn1⟩ := nextF_range hx0 hf
        have hg : (48 : Int) ≤ ((l[k]?.getD 0).toNat : Int) ∧ ((l[k]?.getD 0).toNat : Int) ≤ 57 := by simp only [figU, Bool.and_eq_true, decide_eq_true_eq] at hf; omega
        obtain ⟨hg0, hg1⟩ := hg
        clear HC hf
        go_wp2_with (go_at_call 18; refine (HC2.out _).mono ?_; rintro e w' ⟨rfl, rfl⟩)
        go_round
        case rel => exact ⟨k + 1, nextF x (l[k]?.getD 0), by omega, by go_num, by simp only [nextF]; congr 1; split <;> omega, hn0, hn1, H2⟩
        case measure => simp [intOf]; omega
    · have H2 := Lib.hid (HT.out.whole (by rw [HL.out]; omega))
      have hkn : k = n := by omega
      subst hkn
      go_wp2
      go_ret2
      exact ⟨by rw [H2.out]; rfl, rfl⟩

set_option maxHeartbeats 800000 in
theorem refTake_calls (p : Option Addr) (n c : Nat) (l : List UInt8) (w : World) (hl : l.length = n) (hm : n ≤ 4611686018427387904) (hr : Reads w p (l.map byV)) :
    Calls Tryd.prog 11 #[.slice p n c] w fun e w' => e = .returned (.tuple #[.int .i64 (takeF 0 l).1, .int .i64 ((takeF 0 l).2 : Nat)]) ∧ w' = w := by
  have HL := Lib.hid hl
  have HR := Lib.hid hr
  clear hl hr
  go_enter Tryd.func11, Tryd.ntmps11
  go_wp2
  go_loop [4, 5] (fun m i => ∃ (k : Nat) (x : Int), k ≤ n ∧ i = .int .i64 k ∧ m = .int .i64 x ∧ 0 ≤ x ∧ x ≤ 1114111 ∧ Hid (TakeAt l k x)) (fun _ i => n - (intOf i).toNat)
  case atStart => exact ⟨0, 0, Nat.zero_le _, rfl, rfl, by decide, by decide, Lib.hid (TakeAt.start l)⟩
  case round =>
    obtain ⟨k, x, hk, rfl, rfl, hx0, hx1, HT⟩ := hrel
    by_cases hlt : k < n
    · obtain ⟨b, o, rfl, hcell⟩ := HR.out.byte (k := k) (by rw [HL.out]; exact hlt)
      have hb1 : decide ((k : Int) < (n : Int)) = true := decide_eq_true (by omega)
      cases hf : figU (l[k]?.getD 0)
      · have H2 := Lib.hid (HT.out.stop (by rw [HL.out]; exact hlt) hf)
        by_cases hg : 48 ≤ (l[k]?.getD 0).toNat
        · have b1 : decide ((48 : Int) ≤ ((l[k]?.getD 0).toNat : Int)) = true := decide_eq_true (by omega)
          have b2 : decide (((l[k]?.getD 0).toNat : Int) ≤ 57) = false := decide_eq_false (by simp [figU, hg] at hf; omega)
          clear hf
          go_wp2
          go_ret2
          exact ⟨by rw [H2.out]; rfl, rfl⟩
        · have b1 : decide ((48 : Int) ≤ ((l[k]?.getD 0).toNat : Int)) = false := decide_eq_false (by omega)
          clear hf
          go_wp2
          go_ret2
          exact ⟨by rw [H2.out]; rfl, rfl⟩
      · have H2 := Lib.hid (HT.out.step (by rw [HL.out]; exact hlt) hf)
        obtain ⟨hn0, hn1⟩ := nextF_range hx0 hf
        have hg : (48 : Int) ≤ ((l[k]?.getD 0).toNat : Int) ∧ ((l[k]?.getD 0).toNat : Int) ≤ 57 := by simp only [figU, Bool.and_eq_true, decide_eq_true_eq] at hf; omega
        obtain ⟨hg0, hg1⟩ := hg
        have b1 : decide ((48 : Int) ≤ ((l[k]?.getD 0).toNat : Int)) = true := decide_eq_true hg0
        have b2 : decide (((l[k]?.getD 0).toNat : Int) ≤ 57) = true := decide_eq_true hg1
        clear hf
        go_wp2
        go_round
        case rel => exact ⟨k + 1, nextF x (l[k]?.getD 0), by omega, by go_num, by simp only [nextF]; congr 1; split <;> omega, hn0, hn1, H2⟩
        case measure => simp [intOf]; omega
    · have H2 := Lib.hid (HT.out.whole (by rw [HL.out]; omega))
      have hb1 : decide ((k : Int) < (n : Int)) = false := decide_eq_false (by omega)
      go_wp2
      go_ret2
      exact ⟨by rw [H2.out]; rfl, rfl⟩

end Go.Proofs.YtpkelaklajplnaaDoor
