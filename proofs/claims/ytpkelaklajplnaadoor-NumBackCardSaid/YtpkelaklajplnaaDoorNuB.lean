/- The walks of layer 1 (num): a figure of sixteen, and what one is worth; Hex, and the reference's. No condition but the sizes of what is read. -/
import Derived.Test.YtpkelaklajplnaaDoorNuA
import Derived.Deep.RegionHeld3
import Derived.Deep.AppendLies
import Derived.Deep.DrawnRows
namespace Go.Proofs.YtpkelaklajplnaaDoor
set_option linter.unusedVariables false
set_option linter.unusedSimpArgs false
open Go.RowKit Kit
attribute [local irreducible] wpList Calls wpQuiet

set_option maxHeartbeats 800000 in
theorem value_calls (c : UInt8) (w : World) : Calls Tryd.prog 20 #[.int .u8 (c.toNat : Int)] w fun e w' => e = .returned (.int .i64 (valU c)) ∧ w' = w := by
  have hc := c.toNat_lt
  have hs : (0 ≤ c.toNat ∧ c.toNat < 48) ∨ (48 ≤ c.toNat ∧ c.toNat < 58) ∨ (58 ≤ c.toNat ∧ c.toNat < 65) ∨ (65 ≤ c.toNat ∧ c.toNat < 71) ∨ (71 ≤ c.toNat ∧ c.toNat < 97) ∨ (97 ≤ c.toNat ∧ c.toNat < 103) ∨ (103 ≤ c.toNat ∧ c.toNat < 256) := by omega
  rcases hs with ⟨h1, h2⟩ | ⟨h1, h2⟩ | ⟨h1, h2⟩ | ⟨h1, h2⟩ | ⟨h1, h2⟩ | ⟨h1, h2⟩ | ⟨h1, h2⟩
  · have HV : Hid (valU c = -1) := Lib.hid (by unfold valU; rw [if_neg (by omega), if_neg (by omega), if_neg (by omega)])
    have b0 : decide ((48 : Int) ≤ (c.toNat : Int)) = false := decide_eq_false (by omega)
    have b1 : decide ((c.toNat : Int) ≤ 57) = true := decide_eq_true (by omega)
    have b2 : decide ((65 : Int) ≤ (c.toNat : Int)) = false := decide_eq_false (by omega)
    have b3 : decide ((c.toNat : Int) ≤ 70) = true := decide_eq_true (by omega)
    have b4 : decide ((97 : Int) ≤ (c.toNat : Int)) = false := decide_eq_false (by omega)
    have b5 : decide ((c.toNat : Int) ≤ 102) = true := decide_eq_true (by omega)
    have g1 : (0 : Int) ≤ (c.toNat : Int) := by omega
    have g2 : (c.toNat : Int) < 48 := by omega
    clear h1 h2 hc
    go_enter Tryd.func20, Tryd.ntmps20
    go_wp2
    go_ret
    exact ⟨retI (by rw [HV.out]; try omega), rfl⟩
  · have HV : Hid (valU c = (c.toNat : Int) - 48) := Lib.hid (by unfold valU; rw [if_pos (by omega)])
    have b0 : decide ((48 : Int) ≤ (c.toNat : Int)) = true := decide_eq_true (by omega)
    have b1 : decide ((c.toNat : Int) ≤ 57) = true := decide_eq_true (by omega)
    have b2 : decide ((65 : Int) ≤ (c.toNat : Int)) = false := decide_eq_false (by omega)
    have b3 : decide ((c.toNat : Int) ≤ 70) = true := decide_eq_true (by omega)
    have b4 : decide ((97 : Int) ≤ (c.toNat : Int)) = false := decide_eq_false (by omega)
    have b5 : decide ((c.toNat : Int) ≤ 102) = true := decide_eq_true (by omega)
    have g1 : (48 : Int) ≤ (c.toNat : Int) := by omega
    have g2 : (c.toNat : Int) < 58 := by omega
    clear h1 h2 hc
    go_enter Tryd.func20, Tryd.ntmps20
    go_wp2
    go_ret
    exact ⟨retI (by rw [HV.out]; try omega), rfl⟩
  · have HV : Hid (valU c = -1) := Lib.hid (by unfold valU; rw [if_neg (by omega), if_neg (by omega), if_neg (by omega)])
    have b0 : decide ((48 : Int) ≤ (c.toNat : Int)) = true := decide_eq_true (by omega)
    have b1 : decide ((c.toNat : Int) ≤ 57) = false := decide_eq_false (by omega)
    have b2 : decide ((65 : Int) ≤ (c.toNat : Int)) = false := decide_eq_false (by omega)
    have b3 : decide ((c.toNat : Int) ≤ 70) = true := decide_eq_true (by omega)
    have b4 : decide ((97 : Int) ≤ (c.toNat : Int)) = false := decide_eq_false (by omega)
    have b5 : decide ((c.toNat : Int) ≤ 102) = true := decide_eq_true (by omega)
    have g1 : (58 : Int) ≤ (c.toNat : Int) := by omega
    have g2 : (c.toNat : Int) < 65 := by omega
    clear h1 h2 hc
    go_enter Tryd.func20, Tryd.ntmps20
    go_wp2
    go_ret
    exact ⟨retI (by rw [HV.out]; try omega), rfl⟩
  · have HV : Hid (valU c = (c.toNat : Int) - 55) := Lib.hid (by unfold valU; rw [if_neg (by omega), if_pos (by omega)])
    have b0 : decide ((48 : Int) ≤ (c.toNat : Int)) = true := decide_eq_true (by omega)
    have b1 : decide ((c.toNat : Int) ≤ 57) = false := decide_eq_false (by omega)
    have b2 : decide ((65 : Int) ≤ (c.toNat : Int)) = true := decide_eq_true (by omega)
    have b3 : decide ((c.toNat : Int) ≤ 70) = true := decide_eq_true (by omega)
    have b4 : decide ((97 : Int) ≤ (c.toNat : Int)) = false := decide_eq_false (by omega)
    have b5 : decide ((c.toNat : Int) ≤ 102) = true := decide_eq_true (by omega)
    have g1 : (65 : Int) ≤ (c.toNat : Int) := by omega
    have g2 : (c.toNat : Int) < 71 := by omega
    clear h1 h2 hc
    go_enter Tryd.func20, Tryd.ntmps20
    go_wp2
    go_ret
    exact ⟨retI (by rw [HV.out]; try omega), rfl⟩
  · have HV : Hid (valU c = -1) := Lib.hid (by unfold valU; rw [if_neg (by omega), if_neg (by omega), if_neg (by omega)])
    have b0 : decide ((48 : Int) ≤ (c.toNat : Int)) = true := decide_eq_true (by omega)
    have b1 : decide ((c.toNat : Int) ≤ 57) = false := decide_eq_false (by omega)
    have b2 : decide ((65 : Int) ≤ (c.toNat : Int)) = true := decide_eq_true (by omega)
    have b3 : decide ((c.toNat : Int) ≤ 70) = false := decide_eq_false (by omega)
    have b4 : decide ((97 : Int) ≤ (c.toNat : Int)) = false := decide_eq_false (by omega)
    have b5 : decide ((c.toNat : Int) ≤ 102) = true := decide_eq_true (by omega)
    have g1 : (71 : Int) ≤ (c.toNat : Int) := by omega
    have g2 : (c.toNat : Int) < 97 := by omega
    clear h1 h2 hc
    go_enter Tryd.func20, Tryd.ntmps20
    go_wp2
    go_ret
    exact ⟨retI (by rw [HV.out]; try omega), rfl⟩
  · have HV : Hid (valU c = (c.toNat : Int) - 87) := Lib.hid (by unfold valU; rw [if_neg (by omega), if_neg (by omega), if_pos (by omega)])
    have b0 : decide ((48 : Int) ≤ (c.toNat : Int)) = true := decide_eq_true (by omega)
    have b1 : decide ((c.toNat : Int) ≤ 57) = false := decide_eq_false (by omega)
    have b2 : decide ((65 : Int) ≤ (c.toNat : Int)) = true := decide_eq_true (by omega)
    have b3 : decide ((c.toNat : Int) ≤ 70) = false := decide_eq_false (by omega)
    have b4 : decide ((97 : Int) ≤ (c.toNat : Int)) = true := decide_eq_true (by omega)
    have b5 : decide ((c.toNat : Int) ≤ 102) = true := decide_eq_true (by omega)
    have g1 : (97 : Int) ≤ (c.toNat : Int) := by omega
    have g2 : (c.toNat : Int) < 103 := by omega
    clear h1 h2 hc
    go_enter Tryd.func20, Tryd.ntmps20
    go_wp2
    go_ret
    exact ⟨retI (by rw [HV.out]; try omega), rfl⟩
  · have HV : Hid (valU c = -1) := Lib.hid (by unfold valU; rw [if_neg (by omega), if_neg (by omega), if_neg (by omega)])
    have b0 : decide ((48 : Int) ≤ (c.toNat : Int)) = true := decide_eq_true (by omega)
    have b1 : decide ((c.toNat : Int) ≤ 57) = false := decide_eq_false (by omega)
    have b2 : decide ((65 : Int) ≤ (c.toNat : Int)) = true := decide_eq_true (by omega)
    have b3 : decide ((c.toNat : Int) ≤ 70) = false := decide_eq_false (by omega)
    have b4 : decide ((97 : Int) ≤ (c.toNat : Int)) = true := decide_eq_true (by omega)
    have b5 : decide ((c.toNat : Int) ≤ 102) = false := decide_eq_false (by omega)
    have g1 : (103 : Int) ≤ (c.toNat : Int) := by omega
    have g2 : (c.toNat : Int) < 256 := by omega
    clear h1 h2 hc
    go_enter Tryd.func20, Tryd.ntmps20
    go_wp2
    go_ret
    exact ⟨retI (by rw [HV.out]; try omega), rfl⟩

set_option maxHeartbeats 800000 in
theorem refValue_calls (c : UInt8) (w : World) : Calls Tryd.prog 21 #[.int .u8 (c.toNat : Int)] w fun e w' => e = .returned (.int .i64 (valU c)) ∧ w' = w := by
  have hc := c.toNat_lt
  have hs : (0 ≤ c.toNat ∧ c.toNat < 48) ∨ (48 ≤ c.toNat ∧ c.toNat < 58) ∨ (58 ≤ c.toNat ∧ c.toNat < 65) ∨ (65 ≤ c.toNat ∧ c.toNat < 71) ∨ (71 ≤ c.toNat ∧ c.toNat < 97) ∨ (97 ≤ c.toNat ∧ c.toNat < 103) ∨ (103 ≤ c.toNat ∧ c.toNat < 256) := by omega
  rcases hs with ⟨h1, h2⟩ | ⟨h1, h2⟩ | ⟨h1, h2⟩ | ⟨h1, h2⟩ | ⟨h1, h2⟩ | ⟨h1, h2⟩ | ⟨h1, h2⟩
  · have HV : Hid (valU c = -1) := Lib.hid (by unfold valU; rw [if_neg (by omega), if_neg (by omega), if_neg (by omega)])
    have b0 : decide ((48 : Int) ≤ (c.toNat : Int)) = false := decide_eq_false (by omega)
    have b1 : decide ((c.toNat : Int) ≤ 57) = true := decide_eq_true (by omega)
    have b2 : decide ((65 : Int) ≤ (c.toNat : Int)) = false := decide_eq_false (by omega)
    have b3 : decide ((c.toNat : Int) ≤ 70) = true := decide_eq_true (by omega)
    have b4 : decide ((97 : Int) ≤ (c.toNat : Int)) = false := decide_eq_false (by omega)
    have b5 : decide ((c.toNat : Int) ≤ 102) = true := decide_eq_true (by omega)
    have g1 : (0 : Int) ≤ (c.toNat : Int) := by omega
    have g2 : (c.toNat : Int) < 48 := by omega
    clear h1 h2 hc
    go_enter Tryd.func21, Tryd.ntmps21
    go_wp2
    go_ret
    exact ⟨retI (by rw [HV.out]; try omega), rfl⟩
  · have HV : Hid (valU c = (c.toNat : Int) - 48) := Lib.hid (by unfold valU; rw [if_pos (by omega)])
    have b0 : decide ((48 : Int) ≤ (c.toNat : Int)) = true := decide_eq_true (by omega)
    have b1 : decide ((c.toNat : Int) ≤ 57) = true := decide_eq_true (by omega)
    have b2 : decide ((65 : Int) ≤ (c.toNat : Int)) = false := decide_eq_false (by omega)
    have b3 : decide ((c.toNat : Int) ≤ 70) = true := decide_eq_true (by omega)
    have b4 : decide ((97 : Int) ≤ (c.toNat : Int)) = false := decide_eq_false (by omega)
    have b5 : decide ((c.toNat : Int) ≤ 102) = true := decide_eq_true (by omega)
    have g1 : (48 : Int) ≤ (c.toNat : Int) := by omega
    have g2 : (c.toNat : Int) < 58 := by omega
    clear h1 h2 hc
    go_enter Tryd.func21, Tryd.ntmps21
    go_wp2
    go_ret
    exact ⟨retI (by rw [HV.out]; try omega), rfl⟩
  · have HV : Hid (valU c = -1) := Lib.hid (by unfold valU; rw [if_neg (by omega), if_neg (by omega), if_neg (by omega)])
    have b0 : decide ((48 : Int) ≤ (c.toNat : Int)) = true := decide_eq_true (by omega)
    have b1 : decide ((c.toNat : Int) ≤ 57) = false := decide_eq_false (by omega)
    have b2 : decide ((65 : Int) ≤ (c.toNat : Int)) = false := decide_eq_false (by omega)
    have b3 : decide ((c.toNat : Int) ≤ 70) = true := decide_eq_true (by omega)
    have b4 : decide ((97 : Int) ≤ (c.toNat : Int)) = false := decide_eq_false (by omega)
    have b5 : decide ((c.toNat : Int) ≤ 102) = true := decide_eq_true (by omega)
    have g1 : (58 : Int) ≤ (c.toNat : Int) := by omega
    have g2 : (c.toNat : Int) < 65 := by omega
    clear h1 h2 hc
    go_enter Tryd.func21, Tryd.ntmps21
    go_wp2
    go_ret
    exact ⟨retI (by rw [HV.out]; try omega), rfl⟩
  · have HV : Hid (valU c = (c.toNat : Int) - 55) := Lib.hid (by unfold valU; rw [if_neg (by omega), if_pos (by omega)])
    have b0 : decide ((48 : Int) ≤ (c.toNat : Int)) = true := decide_eq_true (by omega)
    have b1 : decide ((c.toNat : Int) ≤ 57) = false := decide_eq_false (by omega)
    have b2 : decide ((65 : Int) ≤ (c.toNat : Int)) = true := decide_eq_true (by omega)
    have b3 : decide ((c.toNat : Int) ≤ 70) = true := decide_eq_true (by omega)
    have b4 : decide ((97 : Int) ≤ (c.toNat : Int)) = false := decide_eq_false (by omega)
    have b5 : decide ((c.toNat : Int) ≤ 102) = true := decide_eq_true (by omega)
    have g1 : (65 : Int) ≤ (c.toNat : Int) := by omega
    have g2 : (c.toNat : Int) < 71 := by omega
    clear h1 h2 hc
    go_enter Tryd.func21, Tryd.ntmps21
    go_wp2
    go_ret
    exact ⟨retI (by rw [HV.out]; try omega), rfl⟩
  · have HV : Hid (valU c = -1) := Lib.hid (by unfold valU; rw [if_neg (by omega), if_neg (by omega), if_neg (by omega)])
    have b0 : decide ((48 : Int) ≤ (c.toNat : Int)) = true := decide_eq_true (by omega)
    have b1 : decide ((c.toNat : Int) ≤ 57) = false := decide_eq_false (by omega)
    have b2 : decide ((65 : Int) ≤ (c.toNat : Int)) = true := decide_eq_true (by omega)
    have b3 : decide ((c.toNat : Int) ≤ 70) = false := decide_eq_false (by omega)
    have b4 : decide ((97 : Int) ≤ (c.toNat : Int)) = false := decide_eq_false (by omega)
    have b5 : decide ((c.toNat : Int) ≤ 102) = true := decide_eq_true (by omega)
    have g1 : (71 : Int) ≤ (c.toNat : Int) := by omega
    have g2 : (c.toNat : Int) < 97 := by omega
    clear h1 h2 hc
    go_enter Tryd.func21, Tryd.ntmps21
    go_wp2
    go_ret
    exact ⟨retI (by rw [HV.out]; try omega), rfl⟩
  · have HV : Hid (valU c = (c.toNat : Int) - 87) := Lib.hid (by unfold valU; rw [if_neg (by omega), if_neg (by omega), if_pos (by omega)])
    have b0 : decide ((48 : Int) ≤ (c.toNat : Int)) = true := decide_eq_true (by omega)
    have b1 : decide ((c.toNat : Int) ≤ 57) = false := decide_eq_false (by omega)
    have b2 : decide ((65 : Int) ≤ (c.toNat : Int)) = true := decide_eq_true (by omega)
    have b3 : decide ((c.toNat : Int) ≤ 70) = false := decide_eq_false (by omega)
    have b4 : decide ((97 : Int) ≤ (c.toNat : Int)) = true := decide_eq_true (by omega)
    have b5 : decide ((c.toNat : Int) ≤ 102) = true := decide_eq_true (by omega)
    have g1 : (97 : Int) ≤ (c.toNat : Int) := by omega
    have g2 : (c.toNat : Int) < 103 := by omega
    clear h1 h2 hc
    go_enter Tryd.func21, Tryd.ntmps21
    go_wp2
    go_ret
    exact ⟨retI (by rw [HV.out]; try omega), rfl⟩
  · have HV : Hid (valU c = -1) := Lib.hid (by unfold valU; rw [if_neg (by omega), if_neg (by omega), if_neg (by omega)])
    have b0 : decide ((48 : Int) ≤ (c.toNat : Int)) = true := decide_eq_true (by omega)
    have b1 : decide ((c.toNat : Int) ≤ 57) = false := decide_eq_false (by omega)
    have b2 : decide ((65 : Int) ≤ (c.toNat : Int)) = true := decide_eq_true (by omega)
    have b3 : decide ((c.toNat : Int) ≤ 70) = false := decide_eq_false (by omega)
    have b4 : decide ((97 : Int) ≤ (c.toNat : Int)) = true := decide_eq_true (by omega)
    have b5 : decide ((c.toNat : Int) ≤ 102) = false := decide_eq_false (by omega)
    have g1 : (103 : Int) ≤ (c.toNat : Int) := by omega
    have g2 : (c.toNat : Int) < 256 := by omega
    clear h1 h2 hc
    go_enter Tryd.func21, Tryd.ntmps21
    go_wp2
    go_ret
    exact ⟨retI (by rw [HV.out]; try omega), rfl⟩

theorem figure16_calls (n : Nat) (hn : n < 16) (w : World) : Calls Tryd.prog 22 #[.int .i64 (n : Int)] w fun e w' => e = .returned (.int .u8 ((figV n).toNat : Int)) ∧ w' = w := by
  by_cases h : n < 10
  · have HV : Hid (((figV n).toNat : Int) = 48 + n) := Lib.hid (by unfold figV; rw [if_pos h]; simp; omega)
    have b1 : decide ((n : Int) < 10) = true := decide_eq_true (by omega)
    go_enter Tryd.func22, Tryd.ntmps22
    go_wp2
    go_ret
    exact ⟨retI (by rw [HV.out]; try omega), rfl⟩
  · have HV : Hid (((figV n).toNat : Int) = 55 + n) := Lib.hid (by unfold figV; rw [if_neg h]; simp; omega)
    have b1 : decide ((n : Int) < 10) = false := decide_eq_false (by omega)
    go_enter Tryd.func22, Tryd.ntmps22
    go_wp2
    go_ret
    exact ⟨retI (by rw [HV.out]; try omega), rfl⟩

end Go.Proofs.YtpkelaklajplnaaDoor
